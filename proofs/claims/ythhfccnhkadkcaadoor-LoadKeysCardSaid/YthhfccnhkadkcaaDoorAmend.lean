/- The search for errors, and what is amended: the functions of the package amend do what they are held to do; few errors are found. -/
import Derived.Test.YthhfccnhkadkcaaDoorWord

/- The search for errors: plain functions. -/
namespace Go.SL.S
open Go Go.SL
def discTo (c s : List Int) (n : Nat) : Nat → Int
  | 0 => s.getD n 0
  | k + 1 => ofE (toE (discTo c s n k) ^^^ ml (toE (c.getD (k + 1) 0)) (toE (s.getD (n - (k + 1)) 0)))
def discF (c s : List Int) (size n : Nat) : Int := discTo c s n (min size (c.length - 1))
end Go.SL.S

/- Functions and what they are held to do: bound to their code. -/
namespace Go.SL.A
open Go Go.SL Go.SL.S
set_option maxRecDepth 100000
noncomputable def C140 : Ctx := ⟨Go.Proofs.Tryd.prog, D, G68, (fun _ _ => none), fun _ => []⟩
def ann140 (_r : Bool) (_t : FT.I) (s c _b : List Int) (n : Int) (_ns nc _nb : Nat) (size _gap _last : Int) : Nat → St → Option Ann := fun _ _ => some ⟨Nat, [0, 1], [0, 1, 2, 3, 4], fun k => [(6, .v (.int .i64) ((k : Int) + 1)), (5, .v (.int .i64) (discTo c s n.toNat k))], fun _ => [], fun k => k ≤ min size.toNat (nc - 1), fun k => nc - k⟩
def out140 (_r : Bool) (t : FT.I) (s c _b : List Int) (n : Int) (ns nc _nb : Nat) (size _gap _last : Int) : COut := ⟨[t = fieldT, ns = s.length ∧ nc = c.length ∧ nc ≤ 1000 ∧ 1 ≤ nc, 0 ≤ size ∧ size ≤ n ∧ n < ns ∧ n < 1000, ∀ x ∈ s, 0 ≤ x ∧ x < 128], .v (.int .i64) (discF c s size.toNat n.toNat), [], []⟩
def sp140 : Spec := fun args ins => match args, ins with
  | [⟨.ref .ptr, .ptr 0 (.cons (.ref .ptr) (.cons (.ref .slice) (.cons (.ref .slice) (.cons (.ref .slice) (.cons (.int .i64) (.cons (.int .i64) (.last (.int .i64)))))))) [0]⟩, ⟨.int .i64, n⟩], [⟨false, true, (.cons (.ref .ptr) (.cons (.ref .slice) (.cons (.ref .slice) (.cons (.ref .slice) (.cons (.int .i64) (.cons (.int .i64) (.last (.int .i64)))))))), [(.ptr 1 (.cons (.arr 127 (.int .i64)) (.last (.arr 128 (.int .i64)))) [0], .slice 2 (.int .i64) [] 0 ns, .slice 3 (.int .i64) [] 0 nc, .slice 4 (.int .i64) [] 0 nb, size, gap, last)]⟩, ⟨false, true, (.cons (.arr 127 (.int .i64)) (.last (.arr 128 (.int .i64)))), [t]⟩, ⟨r, false, .int .i64, s⟩, ⟨false, false, .int .i64, c⟩, ⟨false, false, .int .i64, b⟩] => some (out140 r t s c b n ns nc nb size gap last)
  | _, _ => none
def G140 := addG G68 132 sp140
def P140 (r : Bool) (t : List Int × List Int) (s c b : List Int) (n : Int) (ns nc nb : Nat) (size gap last : Int) : Prop :=
  (((0 : Int) ≤ n ∧ n < (↑ns : Int)) ∧ (0 : Nat) + Int.toNat n < List.length s) ∧ ∃ (x : Nat), (((0 : Nat) = (0 : Nat) ∧ n = n ∧ List.getD s ((0 : Nat) + Int.toNat n) (0 : Int) = discTo c s (Int.toNat n) x ∧ (1 : Int) = (↑x
  : Int) + (1 : Int) ∧ (0 : Nat) = (0 : Nat) ∧ (0 : Nat) = (0 : Nat) ∧ ns = ns ∧ (0 : Nat) = (0 : Nat) ∧ nc = nc ∧ (0 : Nat) = (0 : Nat) ∧ nb = nb ∧ size = size ∧ gap = gap ∧ last = last ∧ false = false ∧ Prod.fst t =
  Prod.fst t ∧ Prod.snd t = Prod.snd t ∧ false = false ∧ s = s ∧ r = r ∧ c = c ∧ false = false ∧ b = b ∧ false = false) ∧ x ≤ min (Int.toNat size) (nc - (1 : Nat))) ∧ ∀ (x : Nat), x ≤ min (Int.toNat size) (nc - (1 : Nat)) →
  IntKind.min IntKind.i64 ≤ (↑x : Int) + (1 : Int) ∧ (↑x : Int) + (1 : Int) ≤ IntKind.max IntKind.i64 ∧ IntKind.min IntKind.i64 ≤ discTo c s (Int.toNat n) x ∧ discTo c s (Int.toNat n) x ≤ IntKind.max IntKind.i64 → ∀ (b_1 :
  Bool), decide ((↑x : Int) + (1 : Int) ≤ size) = b_1 → ((b_1 = true → b_1 = true) ∧ (b_1 = true → b_1 = true) ∧ (b_1 = true → b_1 = true) ∧ (b_1 = true → b_1 = true) ∧ (b_1 = true → b_1 = true ∧ b_1 = true) ∧ (b_1 = true →
  b_1 = true)) ∧ bif bif b_1 then decide ((↑x : Int) + (1 : Int) < (↑nc : Int)) else false then (((0 : Int) ≤ (↑x : Int) + (1 : Int) ∧ (↑x : Int) + (1 : Int) < (↑nc : Int)) ∧ (0 : Nat) + Int.toNat ((↑x : Int) + (1 : Int)) <
  List.length c ∧ ((0 : Int) ≤ IntKind.wrap IntKind.i64 (n - ((↑x : Int) + (1 : Int))) ∧ IntKind.wrap IntKind.i64 (n - ((↑x : Int) + (1 : Int))) < (↑ns : Int)) ∧ (0 : Nat) + Int.toNat (IntKind.wrap IntKind.i64 (n - ((↑x :
  Int) + (1 : Int)))) < List.length s ∧ t = fieldT) ∧ ∃ (y : Nat), ((0 : Nat) = (0 : Nat) ∧ n = n ∧ ixor IntKind.i64 (discTo c s (Int.toNat n) x) (mlI (List.getD c ((0 : Nat) + Int.toNat ((↑x : Int) + (1 : Int))) (0 : Int))
  (List.getD s ((0 : Nat) + Int.toNat (IntKind.wrap IntKind.i64 (n - ((↑x : Int) + (1 : Int))))) (0 : Int))) = discTo c s (Int.toNat n) y ∧ IntKind.wrap IntKind.i64 ((↑x : Int) + (1 : Int) + (1 : Int)) = (↑y : Int) + (1 :
  Int) ∧ (0 : Nat) = (0 : Nat) ∧ (0 : Nat) = (0 : Nat) ∧ ns = ns ∧ (0 : Nat) = (0 : Nat) ∧ nc = nc ∧ (0 : Nat) = (0 : Nat) ∧ nb = nb ∧ size = size ∧ gap = gap ∧ last = last ∧ false = false ∧ Prod.fst t = Prod.fst t ∧
  Prod.snd t = Prod.snd t ∧ false = false ∧ s = s ∧ r = r ∧ c = c ∧ false = false ∧ b = b ∧ false = false) ∧ y ≤ min (Int.toNat size) (nc - (1 : Nat)) ∧ nc - y < nc - x else discTo c s (Int.toNat n) x = discF c s (Int.toNat
  size) (Int.toNat n) ∧ (0 : Nat) = (0 : Nat) ∧ (0 : Nat) = (0 : Nat) ∧ ns = ns ∧ (0 : Nat) = (0 : Nat) ∧ nc = nc ∧ (0 : Nat) = (0 : Nat) ∧ nb = nb ∧ size = size ∧ gap = gap ∧ last = last ∧ false = false ∧ Prod.fst t =
  Prod.fst t ∧ Prod.snd t = Prod.snd t ∧ false = false ∧ s = s ∧ r = r ∧ c = c ∧ false = false ∧ b = b ∧ false = false
theorem vc140 (r : Bool) (t : FT.I) (s c b : List Int) (n : Int) (ns nc nb : Nat) (size gap last : Int) : P140 r t s c b n ns nc nb size gap last = vcFun C140 (ann140 r t s c b n ns nc nb size gap last) Go.Proofs.Tryd.f132 [⟨.ref .ptr, .ptr 0 (.cons (.ref .ptr) (.cons (.ref .slice) (.cons (.ref .slice) (.cons (.ref .slice) (.cons (.int .i64) (.cons (.int .i64) (.last (.int .i64)))))))) [0]⟩, ⟨.int .i64, n⟩] [⟨false, true, (.cons (.ref .ptr) (.cons (.ref .slice) (.cons (.ref .slice) (.cons (.ref .slice) (.cons (.int .i64) (.cons (.int .i64) (.last (.int .i64)))))))), [(.ptr 1 (.cons (.arr 127 (.int .i64)) (.last (.arr 128 (.int .i64)))) [0], .slice 2 (.int .i64) [] 0 ns, .slice 3 (.int .i64) [] 0 nc, .slice 4 (.int .i64) [] 0 nb, size, gap, last)]⟩, ⟨false, true, (.cons (.arr 127 (.int .i64)) (.last (.arr 128 (.int .i64)))), [t]⟩, ⟨r, false, .int .i64, s⟩, ⟨false, false, .int .i64, c⟩, ⟨false, false, .int .i64, b⟩] (out140 r t s c b n ns nc nb size gap last) := by kernel_rfl

end Go.SL.A

/- The search for errors. -/
namespace Go.SL.A
open Go Go.SL Go.SL.S
set_option maxRecDepth 100000

theorem getD_rng {s : List Int} (h : ∀ x ∈ s, 0 ≤ x ∧ x < 128) (k : Nat) : 0 ≤ s.getD k 0 ∧ s.getD k 0 < 128 := by
  by_cases hk : k < s.length
  · exact h _ (getD_mem hk)
  · rw [List.getD_eq_getElem?_getD, List.getElem?_eq_none (by omega)]; simp
theorem disc_rng {s : List Int} (h : ∀ x ∈ s, 0 ≤ x ∧ x < 128) (c : List Int) (n : Nat) : ∀ k, 0 ≤ discTo c s n k ∧ discTo c s n k < 128
  | 0 => getD_rng h n
  | k + 1 => ofE_fit _

theorem ixor_num {a b : Int} (ha : 0 ≤ a ∧ a < 128) : ixor .i64 a (ofE (toE b)) = ofE (toE a ^^^ toE b) := by
  have := ixor_ofE (toE a) (toE b)
  rw [ofE_toE ha] at this; exact this

theorem pure140 (r : Bool) (t : FT.I) (s c b : List Int) (n : Int) (ns nc nb : Nat) (size gap last : Int)
    (hp : t = fieldT ∧ (ns = s.length ∧ nc = c.length ∧ nc ≤ 1000 ∧ 1 ≤ nc) ∧ (0 ≤ size ∧ size ≤ n ∧ n < ns ∧ n < 1000) ∧ ∀ x ∈ s, 0 ≤ x ∧ x < 128) : P140 r t s c b n ns nc nb size gap last := by
  obtain ⟨ht, ⟨h1, h2, h3, h4⟩, ⟨g1, g2, g3, g4⟩, hs⟩ := hp
  unfold P140
  simp only [eq_self, true_and, and_true, Nat.zero_add]
  refine ⟨⟨⟨by omega, by omega⟩, by omega⟩, 0, ⟨⟨rfl, rfl⟩, by omega⟩, fun k hk _ => ?_⟩
  intro q hq
  have ek : ((k : Int) + 1).toNat = k + 1 := by omega
  have hd := disc_rng hs c n.toNat k
  rw [ek]
  refine ⟨by cases q <;> simp, ?_⟩
  cases hc : (bif q then decide ((k : Int) + 1 < (nc : Int)) else false) with
  | true =>
    have hb : (k : Int) + 1 ≤ size ∧ (k : Int) + 1 < nc := by
      cases q with
      | false => cases hc
      | true => exact ⟨of_decide_eq_true hq, of_decide_eq_true hc⟩
    rw [cond_true, w64 (n := n - ((k : Int) + 1)) (by omega) (by omega)]
    have en : (n - ((k : Int) + 1)).toNat = n.toNat - (k + 1) := by omega
    rw [en]
    refine ⟨⟨⟨by first | omega | trivial, by first | omega | trivial⟩, by omega, ⟨by first | omega | trivial, by first | omega | trivial⟩, by omega, ht⟩, k + 1, ⟨?_, by rw [w64 (by omega) (by omega)]; omega⟩, by omega, by omega⟩
    rw [discTo]
    have e2 : mlI (c.getD (k + 1) 0) (s.getD (n.toNat - (k + 1)) 0) = ofE (ml (toE (c.getD (k + 1) 0)) (toE (s.getD (n.toNat - (k + 1)) 0))) := rfl
    rw [e2]
    have := ixor_ofE (toE (discTo c s n.toNat k)) (ml (toE (c.getD (k + 1) 0)) (toE (s.getD (n.toNat - (k + 1)) 0)))
    rw [ofE_toE hd] at this
    exact this
  | false =>
    rw [cond_false]
    have : k = min size.toNat (nc - 1) := by
      cases q with
      | false => have := of_decide_eq_false hq; omega
      | true => have h5 := of_decide_eq_true hq; have h6 := of_decide_eq_false hc; omega
    unfold discF
    rw [this, h2]
end Go.SL.A

/- Functions do what they are held to do. -/
namespace Go.SL.A
open Go Go.SL Go.SL.S
theorem snd140 : Sound Go.Proofs.Tryd.prog G140 := snd68.add ⟨_, Go.Proofs.Tryd.func132, by kernel_rfl, by kernel_rfl⟩ (by
  intro args ins out h hp
  unfold sp140 at h
  split at h
  · rename_i n ns nc nb size gap last t r s c b
    cases h
    exact vcFun_ok (C := C140) good snd68 Meth.none mix Go.Proofs.Tryd.func132 (ann140 r t s c b n ns nc nb size gap last) (fun hw => by rw [← vc140 r t s c b n ns nc nb size gap last]; exact pure140 r t s c b n ns nc nb size gap last hp)
  · cases h)

end Go.SL.A

/- The search's step: plain functions. -/
namespace Go.SL.S
open Go Go.SL
abbrev BS : Type := List Int × List Int × Int × Int × Int
/-- c with b's first i coefficients laid over it, g places on. -/
def growP (c b : List Int) (g : Nat) (a : Int) (i : Nat) : List Int := (List.range c.length).map fun j =>
  if g ≤ j ∧ j < g + i then ofE (toE (c.getD j 0) ^^^ ml (toE a) (toE (b.getD (j - g) 0))) else c.getD j 0
def padI (c : List Int) (n : Nat) : List Int := c ++ List.replicate (n - c.length) 0
def growI (c b : List Int) (g : Nat) (a : Int) : List Int := growP (padI c (b.length + g)) b g a b.length
def stepI (s : List Int) (x : BS) (n : Nat) : BS :=
  let d := discF x.1 s x.2.2.1.toNat n
  if d = 0 then (x.1, x.2.1, x.2.2.1, x.2.2.2.1 + 1, x.2.2.2.2)
  else if 2 * x.2.2.1 ≤ n then (growI x.1 x.2.1 (x.2.2.2.1 + 1).toNat (mlI d (invI x.2.2.2.2)), x.1, n + 1 - x.2.2.1, 0, d)
  else (growI x.1 x.2.1 (x.2.2.2.1 + 1).toNat (mlI d (invI x.2.2.2.2)), x.2.1, x.2.2.1, x.2.2.2.1 + 1, x.2.2.2.2)
end Go.SL.S

/- Functions and what they are held to do: bound to their code. -/
namespace Go.SL.A
open Go Go.SL Go.SL.S
set_option maxRecDepth 100000
noncomputable def C114 : Ctx := ⟨Go.Proofs.Tryd.prog, D, G140, (fun _ _ => none), fun _ => []⟩
def ann114 (_r : Bool) (_t : FT.I) (_s c b : List Int) (_n : Int) (ns nc nb : Nat) (size gap last : Int) : Nat → St → Option Ann := fun id S => match id with | 0 => some ⟨Nat, [0, 1, 4, 5, 6], [1, 2, 4, 5], fun _ => [], fun k => [(0, some ⟨false, true, (.cons (.ref .ptr) (.cons (.ref .slice) (.cons (.ref .slice) (.cons (.ref .slice) (.cons (.int .i64) (.cons (.int .i64) (.last (.int .i64)))))))), [(.ptr 1 (.cons (.arr 127 (.int .i64)) (.last (.arr 128 (.int .i64)))) [0], .slice 2 (.int .i64) [] 0 ns, .slice 6 (.int .i64) [] 0 (nc + k), .slice 4 (.int .i64) [] 0 nb, size, gap + 1, last)]⟩), (6, some ⟨false, false, .int .i64, c ++ List.replicate k 0⟩)], fun k => k ≤ nb + gap.toNat + 1 - nc, fun k => nb + gap.toNat + 1 - nc - k⟩ | _ => some ⟨Nat, [0, 1, 4, 5, 6, 69, 70], [0, 1, 2, 4, 5], fun i => [(71, .v (.int .i64) (i : Int))], fun i => [(6, some ⟨false, false, .int .i64, growP (padI c (nb + gap.toNat + 1)) b (gap.toNat + 1) (S.i 6) i⟩)], fun i => i ≤ nb, fun i => nb - i⟩
def out114 (_r : Bool) (t : FT.I) (s c b : List Int) (n : Int) (ns nc nb : Nat) (size gap last : Int) : COut := ⟨[t = fieldT, ns = s.length ∧ nc = c.length ∧ nc ≤ 100 ∧ 1 ≤ nc ∧ nb = b.length ∧ 1 ≤ nb ∧ nb ≤ 100, 0 ≤ size ∧ size ≤ n ∧ n < ns ∧ n < 100 ∧ 0 ≤ gap ∧ gap ≤ n, (∀ x ∈ s, 0 ≤ x ∧ x < 128) ∧ (∀ x ∈ c, 0 ≤ x ∧ x < 128) ∧ ∀ x ∈ b, 0 ≤ x ∧ x < 128], .tup [], [(0, some ⟨false, true, (.cons (.ref .ptr) (.cons (.ref .slice) (.cons (.ref .slice) (.cons (.ref .slice) (.cons (.int .i64) (.cons (.int .i64) (.last (.int .i64)))))))), [(.ptr 1 (.cons (.arr 127 (.int .i64)) (.last (.arr 128 (.int .i64)))) [0], .slice 2 (.int .i64) [] 0 ns, .slice 5 (.int .i64) [] 0 (stepI s (c, b, size, gap, last) n.toNat).1.length, .slice 6 (.int .i64) [] 0 (stepI s (c, b, size, gap, last) n.toNat).2.1.length, (stepI s (c, b, size, gap, last) n.toNat).2.2.1, (stepI s (c, b, size, gap, last) n.toNat).2.2.2.1, (stepI s (c, b, size, gap, last) n.toNat).2.2.2.2)]⟩), (3, none), (4, none)], [⟨false, false, .int .i64, (stepI s (c, b, size, gap, last) n.toNat).1⟩, ⟨false, false, .int .i64, (stepI s (c, b, size, gap, last) n.toNat).2.1⟩]⟩
def sp114 : Spec := fun args ins => match args, ins with
  | [⟨.ref .ptr, .ptr 0 (.cons (.ref .ptr) (.cons (.ref .slice) (.cons (.ref .slice) (.cons (.ref .slice) (.cons (.int .i64) (.cons (.int .i64) (.last (.int .i64)))))))) [0]⟩, ⟨.int .i64, n⟩], [⟨false, true, (.cons (.ref .ptr) (.cons (.ref .slice) (.cons (.ref .slice) (.cons (.ref .slice) (.cons (.int .i64) (.cons (.int .i64) (.last (.int .i64)))))))), [(.ptr 1 (.cons (.arr 127 (.int .i64)) (.last (.arr 128 (.int .i64)))) [0], .slice 2 (.int .i64) [] 0 ns, .slice 3 (.int .i64) [] 0 nc, .slice 4 (.int .i64) [] 0 nb, size, gap, last)]⟩, ⟨false, true, (.cons (.arr 127 (.int .i64)) (.last (.arr 128 (.int .i64)))), [t]⟩, ⟨r, false, .int .i64, s⟩, ⟨false, false, .int .i64, c⟩, ⟨false, false, .int .i64, b⟩] => some (out114 r t s c b n ns nc nb size gap last)
  | _, _ => none
def G114 := addG G140 115 sp114
def P114 (r : Bool) (t : List Int × List Int) (s c b : List Int) (n : Int) (ns nc nb : Nat) (size gap last : Int) : Prop :=
  (t = fieldT ∧ (ns = List.length s ∧ nc = List.length c ∧ nc ≤ (1000 : Nat) ∧ (1 : Nat) ≤ nc) ∧ ((0 : Int) ≤ size ∧ size ≤ n ∧ n < (↑ns : Int) ∧ n < (1000 : Int)) ∧ ∀ (x : Int), List.Mem x s → (0 : Int) ≤ x ∧ x < (128 :
  Int)) ∧ bif decide (discF c s (Int.toNat size) (Int.toNat n) = (0 : Int)) then (0 : Nat) = (0 : Nat) ∧ (0 : Nat) = (0 : Nat) ∧ ns = ns ∧ (0 : Nat) = (0 : Nat) ∧ nc = List.length (Prod.fst (stepI s (c, b, size, gap, last)
  (Int.toNat n))) ∧ (0 : Nat) = (0 : Nat) ∧ nb = List.length (Prod.fst (Prod.snd (stepI s (c, b, size, gap, last) (Int.toNat n)))) ∧ size = Prod.fst (Prod.snd (Prod.snd (stepI s (c, b, size, gap, last) (Int.toNat n)))) ∧
  IntKind.wrap IntKind.i64 (gap + (1 : Int)) = Prod.fst (Prod.snd (Prod.snd (Prod.snd (stepI s (c, b, size, gap, last) (Int.toNat n))))) ∧ last = Prod.snd (Prod.snd (Prod.snd (Prod.snd (stepI s (c, b, size, gap, last)
  (Int.toNat n))))) ∧ false = false ∧ Prod.fst t = Prod.fst t ∧ Prod.snd t = Prod.snd t ∧ false = false ∧ s = s ∧ r = r ∧ c = Prod.fst (stepI s (c, b, size, gap, last) (Int.toNat n)) ∧ false = false ∧ b = Prod.fst (Prod.snd
  (stepI s (c, b, size, gap, last) (Int.toNat n))) ∧ false = false else (nc = List.length c ∧ (0 : Nat) < nc ∧ nc ≤ (1000 : Nat)) ∧ (t = fieldT ∧ t = fieldT) ∧ ∃ (x : Nat), (((0 : Nat) = (0 : Nat) ∧ n = n ∧ discF c s
  (Int.toNat size) (Int.toNat n) = discF c s (Int.toNat size) (Int.toNat n) ∧ (0 : Nat) = (0 : Nat) ∧ nc = nc ∧ mlI (discF c s (Int.toNat size) (Int.toNat n)) (invI last) = mlI (discF c s (Int.toNat size) (Int.toNat n))
  (invI last) ∧ (0 : Nat) = (0 : Nat) ∧ (0 : Nat) = (0 : Nat) ∧ ns = ns ∧ (0 : Nat) = (0 : Nat) ∧ nc = nc + x ∧ (0 : Nat) = (0 : Nat) ∧ nb = nb ∧ size = size ∧ IntKind.wrap IntKind.i64 (gap + (1 : Int)) = gap + (1 : Int) ∧
  last = last ∧ false = false ∧ Prod.fst t = Prod.fst t ∧ Prod.snd t = Prod.snd t ∧ false = false ∧ s = s ∧ r = r ∧ b = b ∧ false = false ∧ c = c ∧ false = false ∧ c = c ++ List.replicate x (0 : Int) ∧ false = false) ∧ x ≤
  nb + Int.toNat gap + (1 : Nat) - nc) ∧ ∀ (x : Nat), x ≤ nb + Int.toNat gap + (1 : Nat) - nc → ((∀ (y : Ref × Ref × Ref × Ref × Int × Int × Int), List.Mem y [(Ref.ptr (1 : Nat) (Ty.cons (Ty.arr (127 : Nat) (Ty.int
  IntKind.i64)) (Ty.last (Ty.arr (128 : Nat) (Ty.int IntKind.i64)))) [(0 : Nat)], Ref.slice (2 : Nat) (Ty.int IntKind.i64) [] (0 : Nat) ns, Ref.slice (6 : Nat) (Ty.int IntKind.i64) [] (0 : Nat) (nc + x), Ref.slice (4 : Nat)
  (Ty.int IntKind.i64) [] (0 : Nat) nb, size, gap + (1 : Int), last)] → IntKind.min IntKind.i64 ≤ Prod.fst (Prod.snd (Prod.snd (Prod.snd (Prod.snd y)))) ∧ Prod.fst (Prod.snd (Prod.snd (Prod.snd (Prod.snd y)))) ≤ IntKind.max
  IntKind.i64 ∧ IntKind.min IntKind.i64 ≤ Prod.fst (Prod.snd (Prod.snd (Prod.snd (Prod.snd (Prod.snd y))))) ∧ Prod.fst (Prod.snd (Prod.snd (Prod.snd (Prod.snd (Prod.snd y))))) ≤ IntKind.max IntKind.i64 ∧ IntKind.min
  IntKind.i64 ≤ Prod.snd (Prod.snd (Prod.snd (Prod.snd (Prod.snd (Prod.snd y))))) ∧ Prod.snd (Prod.snd (Prod.snd (Prod.snd (Prod.snd (Prod.snd y))))) ≤ IntKind.max IntKind.i64) ∧ ∀ (y : Int), List.Mem y (c ++ List.replicate
  x (0 : Int)) → IntKind.min IntKind.i64 ≤ y ∧ y ≤ IntKind.max IntKind.i64) → bif decide ((↑(nc + x) : Int) < IntKind.wrap IntKind.i64 ((↑nb : Int) + (gap + (1 : Int)))) then ((1 : Nat) ≤ (1 : Nat) ∧ (0 : Nat) + (nc + x) =
  List.length (List.append c (List.replicate x (0 : Int))) ∧ (nc + x + (1 : Nat)) * (8 : Nat) ≤ (70368744177664 : Nat)) ∧ ∃ (y : Nat), ((0 : Nat) = (0 : Nat) ∧ n = n ∧ discF c s (Int.toNat size) (Int.toNat n) = discF c s
  (Int.toNat size) (Int.toNat n) ∧ (0 : Nat) = (0 : Nat) ∧ nc = nc ∧ mlI (discF c s (Int.toNat size) (Int.toNat n)) (invI last) = mlI (discF c s (Int.toNat size) (Int.toNat n)) (invI last) ∧ (0 : Nat) = (0 : Nat) ∧ (0 :
  Nat) = (0 : Nat) ∧ ns = ns ∧ (0 : Nat) = (0 : Nat) ∧ nc + x + (1 : Nat) = nc + y ∧ (0 : Nat) = (0 : Nat) ∧ nb = nb ∧ size = size ∧ gap + (1 : Int) = gap + (1 : Int) ∧ last = last ∧ false = false ∧ Prod.fst t = Prod.fst t
  ∧ Prod.snd t = Prod.snd t ∧ false = false ∧ s = s ∧ r = r ∧ b = b ∧ false = false ∧ c = c ∧ false = false ∧ List.append (List.drop (0 : Nat) (List.append c (List.replicate x (0 : Int)))) (seg ((0 : Int) :: List.replicate
  (nat_lit 0) (0 : Int)) (0 : Nat) (1 : Nat)) = c ++ List.replicate y (0 : Int) ∧ false = false) ∧ y ≤ nb + Int.toNat gap + (1 : Nat) - nc ∧ nb + Int.toNat gap + (1 : Nat) - nc - y < nb + Int.toNat gap + (1 : Nat) - nc - x
  else ∃ (x_1 : Nat), (((0 : Nat) = (0 : Nat) ∧ n = n ∧ discF c s (Int.toNat size) (Int.toNat n) = discF c s (Int.toNat size) (Int.toNat n) ∧ (0 : Nat) = (0 : Nat) ∧ nc = nc ∧ mlI (discF c s (Int.toNat size) (Int.toNat n))
  (invI last) = mlI (discF c s (Int.toNat size) (Int.toNat n)) (invI last) ∧ (0 : Nat) = (0 : Nat) ∧ nb = nb ∧ (↑nb : Int) = (↑nb : Int) ∧ (0 : Int) = (↑x_1 : Int) ∧ (0 : Nat) = (0 : Nat) ∧ (0 : Nat) = (0 : Nat) ∧ ns = ns ∧
  (0 : Nat) = (0 : Nat) ∧ nc + x = nc + x ∧ (0 : Nat) = (0 : Nat) ∧ nb = nb ∧ size = size ∧ gap + (1 : Int) = gap + (1 : Int) ∧ last = last ∧ false = false ∧ Prod.fst t = Prod.fst t ∧ Prod.snd t = Prod.snd t ∧ false = false
  ∧ s = s ∧ r = r ∧ b = b ∧ false = false ∧ c = c ∧ false = false ∧ List.append c (List.replicate x (0 : Int)) = growP (padI c (nb + Int.toNat gap + (1 : Nat))) b (Int.toNat gap + (1 : Nat)) (mlI (discF c s (Int.toNat size)
  (Int.toNat n)) (invI last)) x_1 ∧ false = false) ∧ x_1 ≤ nb) ∧ ∀ (x_2 : Nat), x_2 ≤ nb → (IntKind.min IntKind.i64 ≤ (↑x_2 : Int) ∧ (↑x_2 : Int) ≤ IntKind.max IntKind.i64 ∧ ∀ (y : Int), List.Mem y (growP (padI c (nb +
  Int.toNat gap + (1 : Nat))) b (Int.toNat gap + (1 : Nat)) (mlI (discF c s (Int.toNat size) (Int.toNat n)) (invI last)) x_2) → IntKind.min IntKind.i64 ≤ y ∧ y ≤ IntKind.max IntKind.i64) → bif decide ((↑x_2 : Int) < (↑nb :
  Int)) then (((0 : Int) ≤ (↑x_2 : Int) ∧ (↑x_2 : Int) < (↑nb : Int)) ∧ (0 : Nat) + Int.toNat (↑x_2 : Int) < List.length b) ∧ (((0 : Int) ≤ IntKind.wrap IntKind.i64 ((↑x_2 : Int) + (gap + (1 : Int))) ∧ IntKind.wrap
  IntKind.i64 ((↑x_2 : Int) + (gap + (1 : Int))) < (↑(nc + x) : Int)) ∧ (0 : Nat) + Int.toNat (IntKind.wrap IntKind.i64 ((↑x_2 : Int) + (gap + (1 : Int)))) < List.length (growP (padI c (nb + Int.toNat gap + (1 : Nat))) b
  (Int.toNat gap + (1 : Nat)) (mlI (discF c s (Int.toNat size) (Int.toNat n)) (invI last)) x_2) ∧ t = fieldT ∧ ((0 : Int) ≤ IntKind.wrap IntKind.i64 ((↑x_2 : Int) + (gap + (1 : Int))) ∧ IntKind.wrap IntKind.i64 ((↑x_2 :
  Int) + (gap + (1 : Int))) < (↑(nc + x) : Int)) ∧ (0 : Nat) + Int.toNat (IntKind.wrap IntKind.i64 ((↑x_2 : Int) + (gap + (1 : Int)))) < List.length (growP (padI c (nb + Int.toNat gap + (1 : Nat))) b (Int.toNat gap + (1 :
  Nat)) (mlI (discF c s (Int.toNat size) (Int.toNat n)) (invI last)) x_2)) ∧ ∃ (y : Nat), ((0 : Nat) = (0 : Nat) ∧ n = n ∧ discF c s (Int.toNat size) (Int.toNat n) = discF c s (Int.toNat size) (Int.toNat n) ∧ (0 : Nat) = (0
  : Nat) ∧ nc = nc ∧ mlI (discF c s (Int.toNat size) (Int.toNat n)) (invI last) = mlI (discF c s (Int.toNat size) (Int.toNat n)) (invI last) ∧ (0 : Nat) = (0 : Nat) ∧ nb = nb ∧ (↑nb : Int) = (↑nb : Int) ∧ IntKind.wrap
  IntKind.i64 ((↑x_2 : Int) + (1 : Int)) = (↑y : Int) ∧ (0 : Nat) = (0 : Nat) ∧ (0 : Nat) = (0 : Nat) ∧ ns = ns ∧ (0 : Nat) = (0 : Nat) ∧ nc + x = nc + x ∧ (0 : Nat) = (0 : Nat) ∧ nb = nb ∧ size = size ∧ gap + (1 : Int) =
  gap + (1 : Int) ∧ last = last ∧ false = false ∧ Prod.fst t = Prod.fst t ∧ Prod.snd t = Prod.snd t ∧ false = false ∧ s = s ∧ r = r ∧ b = b ∧ false = false ∧ c = c ∧ false = false ∧ List.set (growP (padI c (nb + Int.toNat
  gap + (1 : Nat))) b (Int.toNat gap + (1 : Nat)) (mlI (discF c s (Int.toNat size) (Int.toNat n)) (invI last)) x_2) ((0 : Nat) + Int.toNat (IntKind.wrap IntKind.i64 ((↑x_2 : Int) + (gap + (1 : Int))))) (ixor IntKind.i64
  (List.getD (growP (padI c (nb + Int.toNat gap + (1 : Nat))) b (Int.toNat gap + (1 : Nat)) (mlI (discF c s (Int.toNat size) (Int.toNat n)) (invI last)) x_2) ((0 : Nat) + Int.toNat (IntKind.wrap IntKind.i64 ((↑x_2 : Int) +
  (gap + (1 : Int))))) (0 : Int)) (mlI (mlI (discF c s (Int.toNat size) (Int.toNat n)) (invI last)) (List.getD b ((0 : Nat) + Int.toNat (↑x_2 : Int)) (0 : Int)))) = growP (padI c (nb + Int.toNat gap + (1 : Nat))) b
  (Int.toNat gap + (1 : Nat)) (mlI (discF c s (Int.toNat size) (Int.toNat n)) (invI last)) y ∧ false = false) ∧ y ≤ nb ∧ nb - y < nb - x_2 else bif decide (IntKind.wrap IntKind.i64 ((2 : Int) * size) ≤ n) then (0 : Nat) =
  (0 : Nat) ∧ (0 : Nat) = (0 : Nat) ∧ ns = ns ∧ (0 : Nat) = (0 : Nat) ∧ nc + x = List.length (Prod.fst (stepI s (c, b, size, gap, last) (Int.toNat n))) ∧ (0 : Nat) = (0 : Nat) ∧ nc = List.length (Prod.fst (Prod.snd (stepI s
  (c, b, size, gap, last) (Int.toNat n)))) ∧ IntKind.wrap IntKind.i64 (IntKind.wrap IntKind.i64 (n + (1 : Int)) - size) = Prod.fst (Prod.snd (Prod.snd (stepI s (c, b, size, gap, last) (Int.toNat n)))) ∧ (0 : Int) = Prod.fst
  (Prod.snd (Prod.snd (Prod.snd (stepI s (c, b, size, gap, last) (Int.toNat n))))) ∧ discF c s (Int.toNat size) (Int.toNat n) = Prod.snd (Prod.snd (Prod.snd (Prod.snd (stepI s (c, b, size, gap, last) (Int.toNat n))))) ∧
  false = false ∧ Prod.fst t = Prod.fst t ∧ Prod.snd t = Prod.snd t ∧ false = false ∧ s = s ∧ r = r ∧ growP (padI c (nb + Int.toNat gap + (1 : Nat))) b (Int.toNat gap + (1 : Nat)) (mlI (discF c s (Int.toNat size) (Int.toNat
  n)) (invI last)) x_2 = Prod.fst (stepI s (c, b, size, gap, last) (Int.toNat n)) ∧ false = false ∧ c = Prod.fst (Prod.snd (stepI s (c, b, size, gap, last) (Int.toNat n))) ∧ false = false else (0 : Nat) = (0 : Nat) ∧ (0 :
  Nat) = (0 : Nat) ∧ ns = ns ∧ (0 : Nat) = (0 : Nat) ∧ nc + x = List.length (Prod.fst (stepI s (c, b, size, gap, last) (Int.toNat n))) ∧ (0 : Nat) = (0 : Nat) ∧ nb = List.length (Prod.fst (Prod.snd (stepI s (c, b, size,
  gap, last) (Int.toNat n)))) ∧ size = Prod.fst (Prod.snd (Prod.snd (stepI s (c, b, size, gap, last) (Int.toNat n)))) ∧ gap + (1 : Int) = Prod.fst (Prod.snd (Prod.snd (Prod.snd (stepI s (c, b, size, gap, last) (Int.toNat
  n))))) ∧ last = Prod.snd (Prod.snd (Prod.snd (Prod.snd (stepI s (c, b, size, gap, last) (Int.toNat n))))) ∧ false = false ∧ Prod.fst t = Prod.fst t ∧ Prod.snd t = Prod.snd t ∧ false = false ∧ s = s ∧ r = r ∧ growP (padI c
  (nb + Int.toNat gap + (1 : Nat))) b (Int.toNat gap + (1 : Nat)) (mlI (discF c s (Int.toNat size) (Int.toNat n)) (invI last)) x_2 = Prod.fst (stepI s (c, b, size, gap, last) (Int.toNat n)) ∧ false = false ∧ b = Prod.fst
  (Prod.snd (stepI s (c, b, size, gap, last) (Int.toNat n))) ∧ false = false
theorem vc114 (r : Bool) (t : FT.I) (s c b : List Int) (n : Int) (ns nc nb : Nat) (size gap last : Int) : P114 r t s c b n ns nc nb size gap last = vcFun C114 (ann114 r t s c b n ns nc nb size gap last) Go.Proofs.Tryd.f115 [⟨.ref .ptr, .ptr 0 (.cons (.ref .ptr) (.cons (.ref .slice) (.cons (.ref .slice) (.cons (.ref .slice) (.cons (.int .i64) (.cons (.int .i64) (.last (.int .i64)))))))) [0]⟩, ⟨.int .i64, n⟩] [⟨false, true, (.cons (.ref .ptr) (.cons (.ref .slice) (.cons (.ref .slice) (.cons (.ref .slice) (.cons (.int .i64) (.cons (.int .i64) (.last (.int .i64)))))))), [(.ptr 1 (.cons (.arr 127 (.int .i64)) (.last (.arr 128 (.int .i64)))) [0], .slice 2 (.int .i64) [] 0 ns, .slice 3 (.int .i64) [] 0 nc, .slice 4 (.int .i64) [] 0 nb, size, gap, last)]⟩, ⟨false, true, (.cons (.arr 127 (.int .i64)) (.last (.arr 128 (.int .i64)))), [t]⟩, ⟨r, false, .int .i64, s⟩, ⟨false, false, .int .i64, c⟩, ⟨false, false, .int .i64, b⟩] (out114 r t s c b n ns nc nb size gap last) := by kernel_rfl

end Go.SL.A

/- The search's step. -/
namespace Go.SL.A
open Go Go.SL Go.SL.S
set_option maxRecDepth 100000

theorem growP_len (c b : List Int) (g : Nat) (a : Int) (i : Nat) : (growP c b g a i).length = c.length := by simp [growP]
theorem growP_at (c b : List Int) (g : Nat) (a : Int) (i : Nat) {j : Nat} (h : j < c.length) : (growP c b g a i)[j]? = some (if g ≤ j ∧ j < g + i then ofE (toE (c.getD j 0) ^^^ ml (toE a) (toE (b.getD (j - g) 0))) else c.getD j 0) := by
  unfold growP; rw [List.getElem?_map, List.getElem?_range h]; rfl
theorem growP_getD (c b : List Int) (g : Nat) (a : Int) (i : Nat) {j : Nat} (h : j < c.length) : (growP c b g a i).getD j 0 = if g ≤ j ∧ j < g + i then ofE (toE (c.getD j 0) ^^^ ml (toE a) (toE (b.getD (j - g) 0))) else c.getD j 0 := by
  rw [List.getD_eq_getElem?_getD, growP_at c b g a i h]; rfl
theorem growP_zero (c b : List Int) (g : Nat) (a : Int) : c = growP c b g a 0 := by
  refine List.ext_getElem? fun j => ?_
  by_cases h : j < c.length
  · rw [growP_at c b g a 0 h, if_neg (by omega), List.getD_eq_getElem?_getD, List.getElem?_eq_getElem h]; rfl
  · rw [List.getElem?_eq_none (by omega), List.getElem?_eq_none (by rw [growP_len]; omega)]
theorem growP_step (c b : List Int) (g : Nat) (a : Int) {i : Nat} (h : g + i < c.length) (hc : ∀ x ∈ c, 0 ≤ x ∧ x < 128) :
    List.set (growP c b g a i) (g + i) (ixor .i64 ((growP c b g a i).getD (g + i) 0) (mlI a (b.getD i 0))) = growP c b g a (i + 1) := by
  have e1 : (growP c b g a i).getD (g + i) 0 = c.getD (g + i) 0 := by rw [growP_getD c b g a i h, if_neg (by omega)]
  have e2 : ixor .i64 (c.getD (g + i) 0) (mlI a (b.getD i 0)) = ofE (toE (c.getD (g + i) 0) ^^^ ml (toE a) (toE (b.getD i 0))) := by
    have hr := getD_rng hc (g + i)
    have := ixor_ofE (toE (c.getD (g + i) 0)) (ml (toE a) (toE (b.getD i 0)))
    rw [ofE_toE hr] at this; exact this
  rw [e1, e2]
  refine List.ext_getElem? fun j => ?_
  by_cases hj : j < c.length
  · rw [List.getElem?_set, growP_at c b g a (i + 1) hj, growP_at c b g a i hj]
    by_cases e : g + i = j
    · subst e
      rw [if_pos rfl, if_pos (by rw [growP_len]; exact h), if_pos (by omega), Nat.add_sub_cancel_left]
    · rw [if_neg e]
      by_cases h1 : g ≤ j ∧ j < g + i
      · rw [if_pos h1, if_pos (by omega)]
      · rw [if_neg h1, if_neg (by omega)]
  · rw [List.getElem?_eq_none (by rw [List.length_set, growP_len]; omega), List.getElem?_eq_none (by rw [growP_len]; omega)]

theorem padI_rng {c : List Int} (hc : ∀ x ∈ c, 0 ≤ x ∧ x < 128) (n : Nat) : ∀ x ∈ padI c n, 0 ≤ x ∧ x < 128 := by
  intro x hx
  unfold padI at hx
  rcases List.mem_append.1 hx with h | h
  · exact hc x h
  · rw [List.eq_of_mem_replicate h]; omega
theorem padI_len (c : List Int) (n : Nat) : (padI c n).length = max c.length n := by unfold padI; simp; omega

theorem pure114 (r : Bool) (t : FT.I) (s c b : List Int) (n : Int) (ns nc nb : Nat) (size gap last : Int)
    (hp : t = fieldT ∧ (ns = s.length ∧ nc = c.length ∧ nc ≤ 100 ∧ 1 ≤ nc ∧ nb = b.length ∧ 1 ≤ nb ∧ nb ≤ 100) ∧ (0 ≤ size ∧ size ≤ n ∧ n < ns ∧ n < 100 ∧ 0 ≤ gap ∧ gap ≤ n) ∧ (∀ x ∈ s, 0 ≤ x ∧ x < 128) ∧ (∀ x ∈ c, 0 ≤ x ∧ x < 128) ∧ ∀ x ∈ b, 0 ≤ x ∧ x < 128) : P114 r t s c b n ns nc nb size gap last := by
  obtain ⟨ht, ⟨h1, h2, h3, h4, h5, h6, h7⟩, ⟨g1, g2, g3, g4, g5, g6⟩, hs, hc, hb⟩ := hp
  unfold P114
  have hd := disc_rng hs c n.toNat (min size.toNat (c.length - 1))
  have hdd : discTo c s n.toNat (min size.toNat (c.length - 1)) = discF c s size.toNat n.toNat := rfl
  rw [hdd] at hd
  have st : stepI s (c, b, size, gap, last) n.toNat = if discF c s size.toNat n.toNat = 0 then (c, b, size, gap + 1, last)
    else if 2 * size ≤ (n.toNat : Int) then (growI c b (gap + 1).toNat (mlI (discF c s size.toNat n.toNat) (invI last)), c, (n.toNat : Int) + 1 - size, 0, discF c s size.toNat n.toNat)
    else (growI c b (gap + 1).toNat (mlI (discF c s size.toNat n.toNat) (invI last)), b, size, gap + 1, last) := rfl
  rw [w64 (n := gap + 1) (by omega) (by omega)]
  generalize discF c s size.toNat n.toNat = d at *
  simp only [eq_self, true_and, and_true, Int.toNat_natCast, Nat.zero_add]
  refine ⟨⟨ht, ⟨h1, h2, by omega, h4⟩, ⟨g1, g2, g3, by omega⟩, hs⟩, ?_⟩
  by_cases d0 : d = 0
  · rw [if_pos d0] at st
    rw [decide_eq_true d0, cond_true, st]
    exact ⟨h2, h5, rfl, rfl, rfl, rfl, rfl⟩
  · rw [if_neg d0] at st
    rw [decide_eq_false d0, cond_false]
    have eg : (gap + 1).toNat = gap.toNat + 1 := by omega
    rw [eg] at st
    generalize hA : mlI d (invI last) = a at *
    refine ⟨⟨h2, by omega, by omega⟩, ⟨ht, ht⟩, 0, ⟨⟨rfl, by rw [List.replicate_zero, List.append_nil]⟩, by omega⟩, fun k hk _ => ?_⟩
    rw [w64 (n := (nb : Int) + (gap + 1)) (by omega) (by omega)]
    by_cases hk2 : ((nc + k : Nat) : Int) < (nb : Int) + (gap + 1)
    · rw [decide_eq_true hk2, cond_true]
      have hl : (List.append c (List.replicate k 0)).length = nc + k := by
        show (c ++ List.replicate k 0).length = _
        rw [List.length_append, List.length_replicate, h2]
      refine ⟨⟨by omega, hl.symm, by omega⟩, k + 1, ⟨by omega, ?_⟩, by omega, by omega⟩
      show List.drop 0 (c ++ List.replicate k 0) ++ [0] = _
      rw [List.drop_zero, List.append_assoc, List.replicate_succ']
    · have hk3 : k = nb + gap.toNat + 1 - nc := by omega
      rw [decide_eq_false hk2, cond_false]
      have hpad : c ++ List.replicate k 0 = padI c (nb + gap.toNat + 1) := by unfold padI; rw [hk3, h2]
      have hpl : (padI c (nb + gap.toNat + 1)).length = nc + k := by rw [padI_len, ← h2]; omega
      have hpr := padI_rng hc (nb + gap.toNat + 1)
      have hgrow : growI c b (gap.toNat + 1) a = growP (padI c (nb + gap.toNat + 1)) b (gap.toNat + 1) a nb := by unfold growI; rw [← h5]; rfl
      have hgl : (growI c b (gap.toNat + 1) a).length = nc + k := by rw [hgrow, growP_len, hpl]
      have hz : List.append c (List.replicate k 0) = growP (padI c (nb + gap.toNat + 1)) b (gap.toNat + 1) a 0 := by
        rw [← growP_zero]; exact hpad
      generalize padI c (nb + gap.toNat + 1) = q at *
      refine ⟨0, ⟨⟨rfl, hz⟩, by omega⟩, fun i hi _ => ?_⟩
      by_cases hi2 : (i : Int) < (nb : Int)
      · rw [decide_eq_true hi2, cond_true, w64 (n := (i : Int) + (gap + 1)) (by omega) (by omega)]
        have ei : ((i : Int) + (gap + 1)).toNat = gap.toNat + 1 + i := by omega
        rw [ei]
        have hs2 := growP_step q b (gap.toNat + 1) a (i := i) (by omega) hpr
        refine ⟨⟨⟨by first | omega | trivial, by first | omega | trivial⟩, by omega⟩, ⟨⟨by omega, by omega⟩, by rw [growP_len]; omega, ht, ⟨by omega, by omega⟩, by rw [growP_len]; omega⟩, i + 1, ⟨by rw [w64 (by omega) (by omega)]; omega, hs2⟩, by omega, by omega⟩
      · have : i = nb := by omega
        subst this
        rw [decide_eq_false hi2, cond_false, w64 (n := 2 * size) (by omega) (by omega)]
        have en : ((n.toNat : Nat) : Int) = n := by omega
        rw [en] at st
        by_cases h2s : 2 * size ≤ n
        · rw [if_pos h2s] at st
          rw [decide_eq_true h2s, cond_true, st, w64 (n := n + 1) (by omega) (by omega), w64 (n := n + 1 - size) (by omega) (by omega)]
          exact ⟨hgl.symm, h2, rfl, rfl, rfl, hgrow.symm, rfl⟩
        · rw [if_neg h2s] at st
          rw [decide_eq_false h2s, cond_false, st]
          exact ⟨hgl.symm, h5, rfl, rfl, rfl, hgrow.symm, rfl⟩
end Go.SL.A

/- Functions do what they are held to do. -/
namespace Go.SL.A
open Go Go.SL Go.SL.S
theorem snd114 : Sound Go.Proofs.Tryd.prog G114 := snd140.add ⟨_, Go.Proofs.Tryd.func115, by kernel_rfl, by kernel_rfl⟩ (by
  intro args ins out h hp
  unfold sp114 at h
  split at h
  · rename_i n ns nc nb size gap last t r s c b
    cases h
    exact vcFun_ok (C := C114) good snd140 Meth.none mix Go.Proofs.Tryd.func115 (ann114 r t s c b n ns nc nb size gap last) (fun hw => by rw [← vc114 r t s c b n ns nc nb size gap last]; exact pure114 r t s c b n ns nc nb size gap last hp)
  · cases h)

end Go.SL.A

/- Places of errors: plain functions. -/
namespace Go.SL.S
open Go Go.SL
def bmTo (s : List Int) : Nat → BS
  | 0 => ([1], [1], 0, 0, 1)
  | n + 1 => stepI s (bmTo s n) n
def rootB (c : List Int) (k : Nat) : Bool := decide (evI c (xpI (0 - (k : Int))) = 0)
def locL (c : List Int) (i : Nat) : List Int := ((List.range i).filter (rootB c)).map fun k : Nat => (k : Int)
def locW (c : List Int) (i : Nat) : List Bool := (List.range 127).map fun k => decide (k < i) && rootB c k
def locC (s : List Int) : List Int := (bmTo s 20).1
def locB (s : List Int) : Bool := rightS s && (!decide (10 < ((locL (locC s) 127).length : Int)) && decide (synL (locW (locC s) 127) = s))
def locF (s : List Int) : List Int := if locB s then locL (locC s) 127 else []
end Go.SL.S

/- Functions and what they are held to do: bound to their code. -/
namespace Go.SL.A
open Go Go.SL Go.SL.S
set_option maxRecDepth 100000
noncomputable def C76 : Ctx := ⟨Go.Proofs.Tryd.prog, D, G114, (fun _ _ => none), fun _ => []⟩
def ann76 (_r : Bool) (s : List Int) (ns : Nat) : Nat → St → Option Ann := fun id _ => match id with | 0 => some ⟨Nat, [0, 4, 5, 6, 24], [0, 1], fun n => [(25, .v (.int .i64) (n : Int))], fun n => [(4, some ⟨false, true, (.cons (.ref .ptr) (.cons (.ref .slice) (.cons (.ref .slice) (.cons (.ref .slice) (.cons (.int .i64) (.cons (.int .i64) (.last (.int .i64)))))))), [(.ptr 1 (.cons (.arr 127 (.int .i64)) (.last (.arr 128 (.int .i64)))) [0], .slice 0 (.int .i64) [] 0 ns, .slice 5 (.int .i64) [] 0 (bmTo s n).1.length, .slice 6 (.int .i64) [] 0 (bmTo s n).2.1.length, (bmTo s n).2.2.1, (bmTo s n).2.2.2.1, (bmTo s n).2.2.2.2)]⟩), (5, some ⟨false, false, .int .i64, (bmTo s n).1⟩), (6, some ⟨false, false, .int .i64, (bmTo s n).2.1⟩)], fun n => n ≤ 20, fun n => 20 - n⟩ | _ => some ⟨Nat, [0, 4, 5, 9], [0, 1, 4, 5], fun i => [(32, .v (.int .i64) (i : Int)), (8, .v (.ref .slice) (.slice 8 (.int .i64) [] 0 (locL (locC s) i).length))], fun i => [(7, some ⟨false, true, .arr 127 .bool, [locW (locC s) i]⟩), (8, some ⟨false, false, .int .i64, locL (locC s) i⟩)], fun i => i ≤ 127, fun i => 127 - i⟩
def out76 (_r : Bool) (s : List Int) (ns : Nat) : COut := ⟨[ns = s.length ∧ ns ≤ 1000000000], .tup [⟨.ref .slice, .slice 1 (.int .i64) [] 0 (locF s).length⟩, ⟨.bool, locB s⟩], [], [⟨false, false, .int .i64, locF s⟩]⟩
def sp76 : Spec := fun args ins => match args, ins with
  | [⟨.ref .slice, .slice 0 (.int .i64) [] 0 ns⟩], [⟨r, false, .int .i64, s⟩] => some (out76 r s ns)
  | _, _ => none
def G76 := addG G114 88 sp76
def P76 (r : Bool) (s : List Int) (ns : Nat) : Prop :=
  (ns = List.length s ∧ ns ≤ (1000000000 : Nat)) ∧ bif !rightS s then List.length (locF s) = (0 : Nat) ∧ false = locB s ∧ s = s ∧ r = r ∧ locF s = [] else ∃ (x : Nat), (((0 : Nat) = (0 : Nat) ∧ ns = ns ∧ (0 : Nat) = (0 :
  Nat) ∧ (0 : Nat) = (0 : Nat) ∧ (0 : Nat) = (0 : Nat) ∧ (↑ns : Int) = (↑ns : Int) ∧ (0 : Int) = (↑x : Int) ∧ s = s ∧ r = r ∧ Prod.fst fieldT = Prod.fst fieldT ∧ Prod.snd fieldT = Prod.snd fieldT ∧ false = false ∧ (0 : Nat)
  = (0 : Nat) ∧ (0 : Nat) = (0 : Nat) ∧ ns = ns ∧ (0 : Nat) = (0 : Nat) ∧ (1 : Nat) = List.length (Prod.fst (bmTo s x)) ∧ (0 : Nat) = (0 : Nat) ∧ (1 : Nat) = List.length (Prod.fst (Prod.snd (bmTo s x))) ∧ (0 : Int) =
  Prod.fst (Prod.snd (Prod.snd (bmTo s x))) ∧ (0 : Int) = Prod.fst (Prod.snd (Prod.snd (Prod.snd (bmTo s x)))) ∧ (1 : Int) = Prod.snd (Prod.snd (Prod.snd (Prod.snd (bmTo s x)))) ∧ false = false ∧ (1 : Int) :: List.replicate
  (nat_lit 0) (0 : Int) = Prod.fst (bmTo s x) ∧ false = false ∧ (1 : Int) :: List.replicate (nat_lit 0) (0 : Int) = Prod.fst (Prod.snd (bmTo s x)) ∧ false = false) ∧ x ≤ (20 : Nat)) ∧ ∀ (x : Nat), x ≤ (20 : Nat) →
  (IntKind.min IntKind.i64 ≤ (↑x : Int) ∧ (↑x : Int) ≤ IntKind.max IntKind.i64 ∧ (∀ (y : Ref × Ref × Ref × Ref × Int × Int × Int), List.Mem y [(Ref.ptr (1 : Nat) (Ty.cons (Ty.arr (127 : Nat) (Ty.int IntKind.i64)) (Ty.last
  (Ty.arr (128 : Nat) (Ty.int IntKind.i64)))) [(0 : Nat)], Ref.slice (0 : Nat) (Ty.int IntKind.i64) [] (0 : Nat) ns, Ref.slice (5 : Nat) (Ty.int IntKind.i64) [] (0 : Nat) (List.length (Prod.fst (bmTo s x))), Ref.slice (6 :
  Nat) (Ty.int IntKind.i64) [] (0 : Nat) (List.length (Prod.fst (Prod.snd (bmTo s x)))), Prod.fst (Prod.snd (Prod.snd (bmTo s x))), Prod.fst (Prod.snd (Prod.snd (Prod.snd (bmTo s x)))), Prod.snd (Prod.snd (Prod.snd
  (Prod.snd (bmTo s x)))))] → IntKind.min IntKind.i64 ≤ Prod.fst (Prod.snd (Prod.snd (Prod.snd (Prod.snd y)))) ∧ Prod.fst (Prod.snd (Prod.snd (Prod.snd (Prod.snd y)))) ≤ IntKind.max IntKind.i64 ∧ IntKind.min IntKind.i64 ≤
  Prod.fst (Prod.snd (Prod.snd (Prod.snd (Prod.snd (Prod.snd y))))) ∧ Prod.fst (Prod.snd (Prod.snd (Prod.snd (Prod.snd (Prod.snd y))))) ≤ IntKind.max IntKind.i64 ∧ IntKind.min IntKind.i64 ≤ Prod.snd (Prod.snd (Prod.snd
  (Prod.snd (Prod.snd (Prod.snd y))))) ∧ Prod.snd (Prod.snd (Prod.snd (Prod.snd (Prod.snd (Prod.snd y))))) ≤ IntKind.max IntKind.i64) ∧ (∀ (y : Int), List.Mem y (Prod.fst (bmTo s x)) → IntKind.min IntKind.i64 ≤ y ∧ y ≤
  IntKind.max IntKind.i64) ∧ ∀ (y : Int), List.Mem y (Prod.fst (Prod.snd (bmTo s x))) → IntKind.min IntKind.i64 ≤ y ∧ y ≤ IntKind.max IntKind.i64) → bif decide ((↑x : Int) < (↑ns : Int)) then (fieldT = fieldT ∧ (ns =
  List.length s ∧ List.length (Prod.fst (bmTo s x)) = List.length (Prod.fst (bmTo s x)) ∧ List.length (Prod.fst (bmTo s x)) ≤ (100 : Nat) ∧ (1 : Nat) ≤ List.length (Prod.fst (bmTo s x)) ∧ List.length (Prod.fst (Prod.snd
  (bmTo s x))) = List.length (Prod.fst (Prod.snd (bmTo s x))) ∧ (1 : Nat) ≤ List.length (Prod.fst (Prod.snd (bmTo s x))) ∧ List.length (Prod.fst (Prod.snd (bmTo s x))) ≤ (100 : Nat)) ∧ ((0 : Int) ≤ Prod.fst (Prod.snd
  (Prod.snd (bmTo s x))) ∧ Prod.fst (Prod.snd (Prod.snd (bmTo s x))) ≤ (↑x : Int) ∧ (↑x : Int) < (↑ns : Int) ∧ (↑x : Int) < (100 : Int) ∧ (0 : Int) ≤ Prod.fst (Prod.snd (Prod.snd (Prod.snd (bmTo s x)))) ∧ Prod.fst (Prod.snd
  (Prod.snd (Prod.snd (bmTo s x)))) ≤ (↑x : Int)) ∧ (∀ (x : Int), List.Mem x s → (0 : Int) ≤ x ∧ x < (128 : Int)) ∧ (∀ (x_1 : Int), List.Mem x_1 (Prod.fst (bmTo s x)) → (0 : Int) ≤ x_1 ∧ x_1 < (128 : Int)) ∧ ∀ (x_1 : Int),
  List.Mem x_1 (Prod.fst (Prod.snd (bmTo s x))) → (0 : Int) ≤ x_1 ∧ x_1 < (128 : Int)) ∧ ∃ (y : Nat), ((0 : Nat) = (0 : Nat) ∧ ns = ns ∧ (0 : Nat) = (0 : Nat) ∧ (0 : Nat) = (0 : Nat) ∧ (0 : Nat) = (0 : Nat) ∧ (↑ns : Int) =
  (↑ns : Int) ∧ IntKind.wrap IntKind.i64 ((↑x : Int) + (1 : Int)) = (↑y : Int) ∧ s = s ∧ r = r ∧ Prod.fst fieldT = Prod.fst fieldT ∧ Prod.snd fieldT = Prod.snd fieldT ∧ false = false ∧ (0 : Nat) = (0 : Nat) ∧ (0 : Nat) = (0
  : Nat) ∧ ns = ns ∧ (0 : Nat) = (0 : Nat) ∧ List.length (Prod.fst (stepI s (Prod.fst (bmTo s x), Prod.fst (Prod.snd (bmTo s x)), Prod.fst (Prod.snd (Prod.snd (bmTo s x))), Prod.fst (Prod.snd (Prod.snd (Prod.snd (bmTo s
  x)))), Prod.snd (Prod.snd (Prod.snd (Prod.snd (bmTo s x))))) (Int.toNat (↑x : Int)))) = List.length (Prod.fst (bmTo s y)) ∧ (0 : Nat) = (0 : Nat) ∧ List.length (Prod.fst (Prod.snd (stepI s (Prod.fst (bmTo s x), Prod.fst
  (Prod.snd (bmTo s x)), Prod.fst (Prod.snd (Prod.snd (bmTo s x))), Prod.fst (Prod.snd (Prod.snd (Prod.snd (bmTo s x)))), Prod.snd (Prod.snd (Prod.snd (Prod.snd (bmTo s x))))) (Int.toNat (↑x : Int))))) = List.length
  (Prod.fst (Prod.snd (bmTo s y))) ∧ Prod.fst (Prod.snd (Prod.snd (stepI s (Prod.fst (bmTo s x), Prod.fst (Prod.snd (bmTo s x)), Prod.fst (Prod.snd (Prod.snd (bmTo s x))), Prod.fst (Prod.snd (Prod.snd (Prod.snd (bmTo s
  x)))), Prod.snd (Prod.snd (Prod.snd (Prod.snd (bmTo s x))))) (Int.toNat (↑x : Int))))) = Prod.fst (Prod.snd (Prod.snd (bmTo s y))) ∧ Prod.fst (Prod.snd (Prod.snd (Prod.snd (stepI s (Prod.fst (bmTo s x), Prod.fst (Prod.snd
  (bmTo s x)), Prod.fst (Prod.snd (Prod.snd (bmTo s x))), Prod.fst (Prod.snd (Prod.snd (Prod.snd (bmTo s x)))), Prod.snd (Prod.snd (Prod.snd (Prod.snd (bmTo s x))))) (Int.toNat (↑x : Int)))))) = Prod.fst (Prod.snd (Prod.snd
  (Prod.snd (bmTo s y)))) ∧ Prod.snd (Prod.snd (Prod.snd (Prod.snd (stepI s (Prod.fst (bmTo s x), Prod.fst (Prod.snd (bmTo s x)), Prod.fst (Prod.snd (Prod.snd (bmTo s x))), Prod.fst (Prod.snd (Prod.snd (Prod.snd (bmTo s
  x)))), Prod.snd (Prod.snd (Prod.snd (Prod.snd (bmTo s x))))) (Int.toNat (↑x : Int)))))) = Prod.snd (Prod.snd (Prod.snd (Prod.snd (bmTo s y)))) ∧ false = false ∧ Prod.fst (stepI s (Prod.fst (bmTo s x), Prod.fst (Prod.snd
  (bmTo s x)), Prod.fst (Prod.snd (Prod.snd (bmTo s x))), Prod.fst (Prod.snd (Prod.snd (Prod.snd (bmTo s x)))), Prod.snd (Prod.snd (Prod.snd (Prod.snd (bmTo s x))))) (Int.toNat (↑x : Int))) = Prod.fst (bmTo s y) ∧ false =
  false ∧ Prod.fst (Prod.snd (stepI s (Prod.fst (bmTo s x), Prod.fst (Prod.snd (bmTo s x)), Prod.fst (Prod.snd (Prod.snd (bmTo s x))), Prod.fst (Prod.snd (Prod.snd (Prod.snd (bmTo s x)))), Prod.snd (Prod.snd (Prod.snd
  (Prod.snd (bmTo s x))))) (Int.toNat (↑x : Int)))) = Prod.fst (Prod.snd (bmTo s y)) ∧ false = false) ∧ y ≤ (20 : Nat) ∧ (20 : Nat) - y < (20 : Nat) - x else ∃ (x_1 : Nat), (((0 : Nat) = (0 : Nat) ∧ ns = ns ∧ (0 : Nat) = (0
  : Nat) ∧ (0 : Nat) = (0 : Nat) ∧ List.length (locL (locC s) x_1) = (0 : Nat) ∧ (0 : Nat) = (0 : Nat) ∧ (0 : Int) = (↑x_1 : Int) ∧ s = s ∧ r = r ∧ Prod.fst fieldT = Prod.fst fieldT ∧ Prod.snd fieldT = Prod.snd fieldT ∧
  false = false ∧ (0 : Nat) = (0 : Nat) ∧ (0 : Nat) = (0 : Nat) ∧ ns = ns ∧ (0 : Nat) = (0 : Nat) ∧ List.length (Prod.fst (bmTo s x)) = List.length (Prod.fst (bmTo s x)) ∧ (0 : Nat) = (0 : Nat) ∧ List.length (Prod.fst
  (Prod.snd (bmTo s x))) = List.length (Prod.fst (Prod.snd (bmTo s x))) ∧ Prod.fst (Prod.snd (Prod.snd (bmTo s x))) = Prod.fst (Prod.snd (Prod.snd (bmTo s x))) ∧ Prod.fst (Prod.snd (Prod.snd (Prod.snd (bmTo s x)))) =
  Prod.fst (Prod.snd (Prod.snd (Prod.snd (bmTo s x)))) ∧ Prod.snd (Prod.snd (Prod.snd (Prod.snd (bmTo s x)))) = Prod.snd (Prod.snd (Prod.snd (Prod.snd (bmTo s x)))) ∧ false = false ∧ Prod.fst (bmTo s x) = Prod.fst (bmTo s
  x) ∧ false = false ∧ false :: List.replicate (nat_lit 126) false = locW (locC s) x_1 ∧ false = false ∧ locL (locC s) x_1 = []) ∧ x_1 ≤ (127 : Nat)) ∧ ∀ (x_2 : Nat), x_2 ≤ (127 : Nat) → (IntKind.min IntKind.i64 ≤ (↑x_2 :
  Int) ∧ (↑x_2 : Int) ≤ IntKind.max IntKind.i64 ∧ (∀ (y : List Bool), List.Mem y [locW (locC s) x_2] → List.length y = (127 : Nat) ∧ ∀ (y_1 : Bool), List.Mem y_1 y → True) ∧ ∀ (y : Int), List.Mem y (locL (locC s) x_2) →
  IntKind.min IntKind.i64 ≤ y ∧ y ≤ IntKind.max IntKind.i64) → bif decide ((↑x_2 : Int) < (127 : Int)) then (fieldT = fieldT ∧ fieldT = fieldT ∧ List.length (Prod.fst (bmTo s x)) = List.length (Prod.fst (bmTo s x)) ∧
  List.length (Prod.fst (bmTo s x)) ≤ (1000000 : Nat)) ∧ bif decide (evI (Prod.fst (bmTo s x)) (xpI (IntKind.wrap IntKind.i64 ((0 : Int) - (↑x_2 : Int)))) = (0 : Int)) then ((1 : Nat) ≤ (1 : Nat) ∧ (0 : Nat) + List.length
  (locL (locC s) x_2) = List.length (locL (locC s) x_2) ∧ (List.length (locL (locC s) x_2) + List.length (seg ((↑x_2 : Int) :: List.replicate (nat_lit 0) (0 : Int)) (0 : Nat) (1 : Nat))) * (8 : Nat) ≤ (70368744177664 :
  Nat)) ∧ (((0 : Int) ≤ (↑x_2 : Int) ∧ (↑x_2 : Int) < (↑(127 : Nat) : Int)) ∧ Int.toNat (↑x_2 : Int) < (127 : Nat)) ∧ ∃ (y : Nat), ((0 : Nat) = (0 : Nat) ∧ ns = ns ∧ (0 : Nat) = (0 : Nat) ∧ (0 : Nat) = (0 : Nat) ∧ (0 : Nat)
  = (0 : Nat) ∧ List.length (locL (locC s) x_2) + List.length (seg ((↑x_2 : Int) :: List.replicate (nat_lit 0) (0 : Int)) (0 : Nat) (1 : Nat)) = List.length (locL (locC s) y) ∧ (0 : Nat) = (0 : Nat) ∧ IntKind.wrap
  IntKind.i64 ((↑x_2 : Int) + (1 : Int)) = (↑y : Int) ∧ s = s ∧ r = r ∧ Prod.fst fieldT = Prod.fst fieldT ∧ Prod.snd fieldT = Prod.snd fieldT ∧ false = false ∧ (0 : Nat) = (0 : Nat) ∧ (0 : Nat) = (0 : Nat) ∧ ns = ns ∧ (0 :
  Nat) = (0 : Nat) ∧ List.length (Prod.fst (bmTo s x)) = List.length (Prod.fst (bmTo s x)) ∧ (0 : Nat) = (0 : Nat) ∧ List.length (Prod.fst (Prod.snd (bmTo s x))) = List.length (Prod.fst (Prod.snd (bmTo s x))) ∧ Prod.fst
  (Prod.snd (Prod.snd (bmTo s x))) = Prod.fst (Prod.snd (Prod.snd (bmTo s x))) ∧ Prod.fst (Prod.snd (Prod.snd (Prod.snd (bmTo s x)))) = Prod.fst (Prod.snd (Prod.snd (Prod.snd (bmTo s x)))) ∧ Prod.snd (Prod.snd (Prod.snd
  (Prod.snd (bmTo s x)))) = Prod.snd (Prod.snd (Prod.snd (Prod.snd (bmTo s x)))) ∧ false = false ∧ Prod.fst (bmTo s x) = Prod.fst (bmTo s x) ∧ false = false ∧ List.set (locW (locC s) x_2) (Int.toNat (↑x_2 : Int)) true =
  locW (locC s) y ∧ false = false ∧ List.append (List.drop (0 : Nat) (locL (locC s) x_2)) (seg ((↑x_2 : Int) :: List.replicate (nat_lit 0) (0 : Int)) (0 : Nat) (1 : Nat)) = locL (locC s) y ∧ false = false) ∧ y ≤ (127 : Nat)
  ∧ (127 : Nat) - y < (127 : Nat) - x_2 else ∃ (y : Nat), ((0 : Nat) = (0 : Nat) ∧ ns = ns ∧ (0 : Nat) = (0 : Nat) ∧ (0 : Nat) = (0 : Nat) ∧ (0 : Nat) = (0 : Nat) ∧ List.length (locL (locC s) x_2) = List.length (locL (locC
  s) y) ∧ (0 : Nat) = (0 : Nat) ∧ IntKind.wrap IntKind.i64 ((↑x_2 : Int) + (1 : Int)) = (↑y : Int) ∧ s = s ∧ r = r ∧ Prod.fst fieldT = Prod.fst fieldT ∧ Prod.snd fieldT = Prod.snd fieldT ∧ false = false ∧ (0 : Nat) = (0 :
  Nat) ∧ (0 : Nat) = (0 : Nat) ∧ ns = ns ∧ (0 : Nat) = (0 : Nat) ∧ List.length (Prod.fst (bmTo s x)) = List.length (Prod.fst (bmTo s x)) ∧ (0 : Nat) = (0 : Nat) ∧ List.length (Prod.fst (Prod.snd (bmTo s x))) = List.length
  (Prod.fst (Prod.snd (bmTo s x))) ∧ Prod.fst (Prod.snd (Prod.snd (bmTo s x))) = Prod.fst (Prod.snd (Prod.snd (bmTo s x))) ∧ Prod.fst (Prod.snd (Prod.snd (Prod.snd (bmTo s x)))) = Prod.fst (Prod.snd (Prod.snd (Prod.snd
  (bmTo s x)))) ∧ Prod.snd (Prod.snd (Prod.snd (Prod.snd (bmTo s x)))) = Prod.snd (Prod.snd (Prod.snd (Prod.snd (bmTo s x)))) ∧ false = false ∧ Prod.fst (bmTo s x) = Prod.fst (bmTo s x) ∧ false = false ∧ locW (locC s) x_2 =
  locW (locC s) y ∧ false = false ∧ locL (locC s) x_2 = locL (locC s) y ∧ false = false) ∧ y ≤ (127 : Nat) ∧ (127 : Nat) - y < (127 : Nat) - x_2 else bif decide ((10 : Int) < (↑(List.length (locL (locC s) x_2)) : Int)) then
  (true = false → false = true) ∧ List.length (locF s) = (0 : Nat) ∧ false = locB s ∧ s = s ∧ r = r ∧ locF s = [] else ((20 : Nat) = List.length (synL (locW (locC s) x_2)) ∧ (20 : Nat) ≤ (1000000000 : Nat) ∧ ns =
  List.length s ∧ ns ≤ (1000000000 : Nat)) ∧ bif !decide (synL (locW (locC s) x_2) = s) then List.length (locF s) = (0 : Nat) ∧ false = locB s ∧ s = s ∧ r = r ∧ locF s = [] else (0 : Nat) = (0 : Nat) ∧ List.length (locL
  (locC s) x_2) = List.length (locF s) ∧ true = locB s ∧ s = s ∧ r = r ∧ locL (locC s) x_2 = locF s ∧ false = false
theorem vc76 (r : Bool) (s : List Int) (ns : Nat) : P76 r s ns = vcFun C76 (ann76 r s ns) Go.Proofs.Tryd.f88 [⟨.ref .slice, .slice 0 (.int .i64) [] 0 ns⟩] [⟨r, false, .int .i64, s⟩] (out76 r s ns) := by kernel_rfl

end Go.SL.A

/- Places of errors. -/
namespace Go.SL.A
open Go Go.SL Go.SL.S
set_option maxRecDepth 100000

structure BI (n : Nat) (x : BS) : Prop where
  c1 : 1 ≤ x.1.length
  c2 : x.1.length ≤ n + 1
  b1 : 1 ≤ x.2.1.length
  b2 : (x.2.1.length : Int) + x.2.2.2.1 ≤ n + 1
  s0 : 0 ≤ x.2.2.1
  s1 : x.2.2.1 ≤ n
  g0 : 0 ≤ x.2.2.2.1
  cr : ∀ v ∈ x.1, 0 ≤ v ∧ v < 128
  br : ∀ v ∈ x.2.1, 0 ≤ v ∧ v < 128

theorem growP_rng {c : List Int} (hc : ∀ x ∈ c, 0 ≤ x ∧ x < 128) (b : List Int) (g : Nat) (a : Int) (i : Nat) : ∀ x ∈ growP c b g a i, 0 ≤ x ∧ x < 128 := by
  intro x hx
  unfold growP at hx
  obtain ⟨j, -, rfl⟩ := List.mem_map.1 hx
  split
  · exact ofE_fit _
  · exact getD_rng hc j
theorem growI_len (c b : List Int) (g : Nat) (a : Int) : (growI c b g a).length = max c.length (b.length + g) := by unfold growI; rw [growP_len, padI_len]
theorem growI_rng {c : List Int} (hc : ∀ x ∈ c, 0 ≤ x ∧ x < 128) (b : List Int) (g : Nat) (a : Int) : ∀ x ∈ growI c b g a, 0 ≤ x ∧ x < 128 :=
  growP_rng (padI_rng hc _) b g a _

theorem BI.init (s : List Int) : BI 0 (bmTo s 0) := by
  have hv : ∀ v ∈ ([1] : List Int), 0 ≤ v ∧ v < 128 := fun v hv => by
    have : v = 1 := by simpa using hv
    omega
  have e : bmTo s 0 = ([1], [1], 0, 0, 1) := rfl
  rw [e]
  exact ⟨by decide, by decide, by decide, by decide, by decide, by decide, by decide, hv, hv⟩

theorem BI.step {n : Nat} {x : BS} (h : BI n x) (s : List Int) : BI (n + 1) (stepI s x n) := by
  obtain ⟨c1, c2, b1, b2, s0, s1, g0, cr, br⟩ := h
  obtain ⟨c, b, size, gap, last⟩ := x
  simp only at c1 c2 b1 b2 s0 s1 g0 cr br
  have st : stepI s (c, b, size, gap, last) n = if discF c s size.toNat n = 0 then (c, b, size, gap + 1, last)
    else if 2 * size ≤ (n : Int) then (growI c b (gap + 1).toNat (mlI (discF c s size.toNat n) (invI last)), c, (n : Int) + 1 - size, 0, discF c s size.toNat n)
    else (growI c b (gap + 1).toNat (mlI (discF c s size.toNat n) (invI last)), b, size, gap + 1, last) := rfl
  rw [st]
  have gr := growI_rng cr b (gap + 1).toNat (mlI (discF c s size.toNat n) (invI last))
  have gl := growI_len c b (gap + 1).toNat (mlI (discF c s size.toNat n) (invI last))
  generalize growI c b (gap + 1).toNat (mlI (discF c s size.toNat n) (invI last)) = G at *
  split
  · exact ⟨c1, by simp only; omega, b1, by simp only; omega, s0, by simp only; omega, by simp only; omega, cr, br⟩
  · split
    · exact ⟨by simp only; omega, by simp only; omega, c1, by simp only; omega, by simp only; omega, by simp only; omega, by simp only; omega, gr, cr⟩
    · exact ⟨by simp only; omega, by simp only; omega, b1, by simp only; omega, s0, by simp only; omega, by simp only; omega, gr, br⟩
theorem bm_ok (s : List Int) : ∀ n, BI n (bmTo s n)
  | 0 => BI.init s
  | n + 1 => (bm_ok s n).step s

theorem right_rng {s : List Int} (h : rightS s = true) : s.length = 20 ∧ ∀ x ∈ s, 0 ≤ x ∧ x < 128 := by
  unfold rightS at h
  rw [Bool.and_eq_true, decide_eq_true_eq] at h
  obtain ⟨h1, h2⟩ := h
  refine ⟨by omega, fun x hx => ?_⟩
  simp only [Bool.not_eq_true', List.any_eq_false] at h2
  have := h2 x hx
  unfold badS at this
  simp only [Bool.or_eq_true, decide_eq_true_eq] at this
  omega

theorem locL_step (c : List Int) (i : Nat) : locL c (i + 1) = if rootB c i then locL c i ++ [(i : Int)] else locL c i := by
  unfold locL
  rw [List.range_succ, List.filter_append, List.map_append]
  cases h : rootB c i <;> simp [h]
theorem locL_len (c : List Int) (i : Nat) : (locL c i).length ≤ i := by
  unfold locL
  rw [List.length_map]
  exact Nat.le_trans (List.length_filter_le _ _) (by simp)
theorem locW_len (c : List Int) (i : Nat) : (locW c i).length = 127 := by simp [locW]
theorem locW_at (c : List Int) (i : Nat) {k : Nat} (h : k < 127) : (locW c i)[k]? = some (decide (k < i) && rootB c k) := by
  unfold locW; rw [List.getElem?_map, List.getElem?_range h]; rfl
theorem locW_step (c : List Int) {i : Nat} (hi : i < 127) (h : rootB c i = true) : List.set (locW c i) i true = locW c (i + 1) := by
  refine List.ext_getElem? fun k => ?_
  by_cases hk : k < 127
  · rw [List.getElem?_set, locW_at c i hk, locW_at c (i + 1) hk]
    by_cases e : i = k
    · subst e
      rw [if_pos rfl, if_pos (by rw [locW_len]; exact hi), h, decide_eq_true (by omega)]; rfl
    · rw [if_neg e]
      by_cases h1 : k < i
      · rw [decide_eq_true h1, decide_eq_true (by omega)]
      · rw [decide_eq_false h1, decide_eq_false (by omega)]
  · rw [List.getElem?_eq_none (by rw [List.length_set, locW_len]; omega), List.getElem?_eq_none (by rw [locW_len]; omega)]
theorem locW_keep (c : List Int) {i : Nat} (h : rootB c i = false) : locW c i = locW c (i + 1) := by
  refine List.ext_getElem? fun k => ?_
  by_cases hk : k < 127
  · rw [locW_at c i hk, locW_at c (i + 1) hk]
    by_cases e : k = i
    · subst e; rw [h, Bool.and_false, Bool.and_false]
    · by_cases h1 : k < i
      · rw [decide_eq_true h1, decide_eq_true (by omega)]
      · rw [decide_eq_false h1, decide_eq_false (by omega)]
  · rw [List.getElem?_eq_none (by rw [locW_len]; omega), List.getElem?_eq_none (by rw [locW_len]; omega)]
theorem locW_zero (c : List Int) : false :: List.replicate 126 false = locW c 0 := by
  show List.replicate 127 false = _
  refine List.ext_getElem? fun k => ?_
  by_cases hk : k < 127
  · rw [locW_at c 0 hk, List.getElem?_replicate, if_pos hk]; simp
  · rw [List.getElem?_eq_none (by rw [List.length_replicate]; omega), List.getElem?_eq_none (by rw [locW_len]; omega)]

theorem pure76 (r : Bool) (s : List Int) (ns : Nat) (hp : ns = s.length ∧ ns ≤ 1000000000) : P76 r s ns := by
  obtain ⟨hn, hn2⟩ := hp
  unfold P76
  simp only [eq_self, true_and, and_true, Int.toNat_natCast, Nat.zero_add]
  refine ⟨⟨hn, hn2⟩, ?_⟩
  cases hr : rightS s with
  | false =>
    have hB : locB s = false := by unfold locB; rw [hr]; rfl
    have hF : locF s = [] := by unfold locF; rw [hB]; rfl
    rw [Bool.not_false, cond_true, hB, hF]
    simp
  | true =>
    obtain ⟨hl, hs⟩ := right_rng hr
    rw [Bool.not_true, cond_false]
    refine ⟨0, ⟨⟨rfl, rfl, rfl, rfl, rfl, rfl, rfl, rfl⟩, by omega⟩, fun n hn3 hw => ?_⟩
    clear hw
    obtain ⟨c1, c2, b1, b2, s0, s1, g0, cr, br⟩ := bm_ok s n
    have hst : bmTo s (n + 1) = stepI s ((bmTo s n).1, (bmTo s n).2.1, (bmTo s n).2.2.1, (bmTo s n).2.2.2.1, (bmTo s n).2.2.2.2) n := rfl
    by_cases h : (n : Int) < (ns : Int)
    · rw [decide_eq_true h, cond_true]
      refine ⟨⟨⟨hn, by omega, c1, b1, by omega⟩, ⟨s0, by omega, by omega, by omega, g0, by omega⟩, hs, cr, br⟩, n + 1, ⟨step_i (by omega), ?_⟩, by omega, by omega⟩
      rw [hst]
      exact ⟨rfl, rfl, rfl, rfl, rfl, rfl, rfl⟩
    · have : n = 20 := by omega
      subst this
      have hc : (bmTo s 20).1 = locC s := rfl
      rw [decide_eq_false h, cond_false]
      rw [hc] at c1 c2 ⊢
      have hB : locB s = (!decide (10 < ((locL (locC s) 127).length : Int)) && decide (synL (locW (locC s) 127) = s)) := by unfold locB; rw [hr, Bool.true_and]
      have hF : locF s = if locB s then locL (locC s) 127 else [] := rfl
      refine ⟨0, ⟨⟨rfl, rfl, locW_zero _, rfl⟩, by omega⟩, fun i hi hw => ?_⟩
      clear hw hst
      have hll := locL_len (locC s) i
      by_cases h2 : (i : Int) < 127
      · rw [decide_eq_true h2, cond_true, w64 (n := 0 - (i : Int)) (by omega) (by omega)]
        have hb : decide (evI (locC s) (xpI (0 - (i : Int))) = 0) = rootB (locC s) i := rfl
        have hs2 := locL_step (locC s) i
        rw [hb]
        refine ⟨by omega, ?_⟩
        cases hrt : rootB (locC s) i with
        | true =>
          rw [hrt, if_pos rfl] at hs2
          rw [cond_true]
          have e1 : seg ((i : Int) :: List.replicate 0 0) 0 1 = [(i : Int)] := rfl
          rw [e1]
          have hone : ([(i : Int)] : List Int).length = 1 := rfl
          rw [hone]
          refine ⟨⟨by first | omega | trivial, by first | omega | trivial⟩, ⟨⟨by first | omega | trivial, by first | omega | trivial⟩, by omega⟩, i + 1, ⟨?_, step_i (by omega), locW_step _ (by omega) hrt, ?_⟩, by omega, by omega⟩
          · rw [hs2, List.length_append]; rfl
          · rw [hs2]; rfl
        | false =>
          rw [hrt, if_neg (by simp)] at hs2
          rw [cond_false]
          exact ⟨i + 1, ⟨by rw [hs2], step_i (by omega), locW_keep _ hrt, hs2.symm⟩, by omega, by omega⟩
      · have : i = 127 := by omega
        subst this
        rw [decide_eq_false h2, cond_false]
        have sl := synL_len (locW (locC s) 127)
        clear h2 hi c1 c2 b1 b2 s0 s1 g0 cr br h hn3 hc
        revert hB hF sl hll
        generalize synL (locW (locC s) 127) = W
        generalize locL (locC s) 127 = q
        generalize locB s = B
        generalize locF s = F
        intro hB hF sl hll
        subst hF
        by_cases h3 : 10 < (q.length : Int)
        · rw [decide_eq_true h3] at hB
          have hB : B = false := hB
          subst hB
          rw [decide_eq_true h3, cond_true]
          exact ⟨fun h => (by cases h), rfl, rfl, rfl⟩
        · rw [decide_eq_false h3] at hB
          rw [decide_eq_false h3, cond_false]
          refine ⟨⟨hll.symm, by omega, hn, hn2⟩, ?_⟩
          by_cases h4 : W = s
          · rw [decide_eq_true h4] at hB
            have hB : B = true := hB
            subst hB
            rw [decide_eq_true h4]
            exact ⟨rfl, rfl, rfl⟩
          · rw [decide_eq_false h4] at hB
            have hB : B = false := hB
            subst hB
            rw [decide_eq_false h4]
            exact ⟨rfl, rfl, rfl⟩
end Go.SL.A

/- Functions do what they are held to do. -/
namespace Go.SL.A
open Go Go.SL Go.SL.S
theorem snd76 : Sound Go.Proofs.Tryd.prog G76 := snd114.add ⟨_, Go.Proofs.Tryd.func88, by kernel_rfl, by kernel_rfl⟩ (by
  intro args ins out h hp
  unfold sp76 at h
  split at h
  · rename_i ns r s
    cases h
    exact vcFun_ok (C := C76) good snd114 Meth.none mix Go.Proofs.Tryd.func88 (ann76 r s ns) (fun hw => by rw [← vc76 r s ns]; exact pure76 r s ns hp)
  · cases h)

end Go.SL.A

/- Amending: plain functions. -/
namespace Go.SL.S
open Go Go.SL
def flipF (c : List Bool) (l : List Int) : List Bool := l.foldl (fun v x => v.set x.toNat (!(bw v x.toNat))) c
abbrev rep7 (b : Bool) : List Bool := List.replicate 127 b
def tryW (w h : List Bool) (b : Bool) : List Bool := flipF (fillB w h (rep7 b)) (locF (synL (fillB w h (rep7 b))))
def tryB (w h : List Bool) (b : Bool) : Bool := locB (synL (fillB w h (rep7 b))) && nearB w h (tryW w h b)
def amI (w h : List Bool) : Int := if tryB w h false then infI (tryW w h false) else if tryB w h true then infI (tryW w h true) else 0
def amE (w h : List Bool) : Int := if tryB w h false then 0 else if tryB w h true then 0 else 5
end Go.SL.S

/- Functions and what they are held to do: bound to their code. -/
namespace Go.SL.A
open Go Go.SL Go.SL.S
set_option maxRecDepth 100000
noncomputable def C71 : Ctx := ⟨Go.Proofs.Tryd.prog, D, G76, (fun _ _ => none), fun _ => []⟩
def ann71 (w h : List Bool) : Nat → St → Option Ann := fun id S => match id with | 0 => some ⟨Nat, [2, 3, 13, 14], [0, 1, 2], fun i => [(15, .v (.int .i64) (i : Int))], fun _ => [], fun i => i ≤ 2 ∧ (1 ≤ i → tryB w h false = false) ∧ (2 ≤ i → tryB w h true = false), fun i => 2 - i⟩ | _ => some ⟨Nat, [2, 3, 13, 14, 15, 8, 31, 32], [0, 1, 2, 5], fun k => [(33, .v (.int .i64) (k : Int))], fun k => [(3, some ⟨false, true, .arr 127 .bool, [flipF (fillB w h (rep7 (S.val 7 .bool))) ((locF (synL (fillB w h (rep7 (S.val 7 .bool))))).take k)]⟩)], fun k => k ≤ (locF (synL (fillB w h (rep7 (S.val 7 .bool))))).length, fun k => (locF (synL (fillB w h (rep7 (S.val 7 .bool))))).length - k⟩
def out71 (w h : List Bool) : COut := ⟨[], .tup [⟨.int .u64, amI w h⟩, ⟨.int .i64, amE w h⟩], [], []⟩
def sp71 : Spec := fun args ins => match args, ins with
  | [⟨.arr 127 .bool, w⟩, ⟨.arr 127 .bool, h⟩], [] => some (out71 w h)
  | _, _ => none
def G71 := addG G76 72 sp71
def P71 (w h : List Bool) : Prop :=
  ∃ (x : Nat), (((0 : Nat) = (0 : Nat) ∧ (0 : Nat) = (0 : Nat) ∧ (0 : Nat) = (0 : Nat) ∧ (2 : Nat) = (2 : Nat) ∧ (↑(2 : Nat) : Int) = (↑(2 : Nat) : Int) ∧ (0 : Int) = (↑x : Int) ∧ w = w ∧ false = false ∧ h = h ∧ false =
  false ∧ false :: List.set (List.replicate (nat_lit 1) false) (nat_lit 0) true = List.set (List.set (List.replicate (2 : Nat) false) (0 : Nat) false) (1 : Nat) true ∧ false = false) ∧ x ≤ (2 : Nat) ∧ ((1 : Nat) ≤ x → tryB
  w h false = false) ∧ ((2 : Nat) ≤ x → tryB w h true = false)) ∧ ∀ (x : Nat), x ≤ (2 : Nat) ∧ ((1 : Nat) ≤ x → tryB w h false = false) ∧ ((2 : Nat) ≤ x → tryB w h true = false) → IntKind.min IntKind.i64 ≤ (↑x : Int) ∧ (↑x
  : Int) ≤ IntKind.max IntKind.i64 → bif decide ((↑x : Int) < (↑(2 : Nat) : Int)) then (((0 : Int) ≤ (↑x : Int) ∧ (↑x : Int) < (↑(2 : Nat) : Int)) ∧ (0 : Nat) + Int.toNat (↑x : Int) < (2 : Nat)) ∧ ((20 : Nat) = List.length
  (synL (fillB w h (List.replicate (127 : Nat) (List.getD (List.set (List.set (List.replicate (2 : Nat) false) (0 : Nat) false) (1 : Nat) true) ((0 : Nat) + Int.toNat (↑x : Int)) false)))) ∧ (20 : Nat) ≤ (1000000000 : Nat))
  ∧ bif !locB (synL (fillB w h (List.replicate (127 : Nat) (List.getD (List.set (List.set (List.replicate (2 : Nat) false) (0 : Nat) false) (1 : Nat) true) ((0 : Nat) + Int.toNat (↑x : Int)) false)))) then ∃ (y : Nat), ((0
  : Nat) = (0 : Nat) ∧ (0 : Nat) = (0 : Nat) ∧ (0 : Nat) = (0 : Nat) ∧ (2 : Nat) = (2 : Nat) ∧ (↑(2 : Nat) : Int) = (↑(2 : Nat) : Int) ∧ IntKind.wrap IntKind.i64 ((↑x : Int) + (1 : Int)) = (↑y : Int) ∧ w = w ∧ false = false
  ∧ h = h ∧ false = false ∧ false :: List.set (List.replicate (nat_lit 1) false) (nat_lit 0) true = List.set (List.set (List.replicate (2 : Nat) false) (0 : Nat) false) (1 : Nat) true ∧ false = false) ∧ (y ≤ (2 : Nat) ∧ ((1
  : Nat) ≤ y → tryB w h false = false) ∧ ((2 : Nat) ≤ y → tryB w h true = false)) ∧ (2 : Nat) - y < (2 : Nat) - x else ∃ (x_1 : Nat), (((0 : Nat) = (0 : Nat) ∧ (0 : Nat) = (0 : Nat) ∧ (0 : Nat) = (0 : Nat) ∧ (0 : Nat) = (0
  : Nat) ∧ (2 : Nat) = (2 : Nat) ∧ (↑(2 : Nat) : Int) = (↑(2 : Nat) : Int) ∧ (↑x : Int) = (↑x : Int) ∧ (0 : Nat) = (0 : Nat) ∧ List.length (locF (synL (fillB w h (List.replicate (127 : Nat) (List.getD (List.set (List.set
  (List.replicate (2 : Nat) false) (0 : Nat) false) (1 : Nat) true) ((0 : Nat) + Int.toNat (↑x : Int)) false))))) = List.length (locF (synL (fillB w h (List.replicate (127 : Nat) (List.getD (List.set (List.set
  (List.replicate (2 : Nat) false) (0 : Nat) false) (1 : Nat) true) ((0 : Nat) + Int.toNat (↑x : Int)) false))))) ∧ (↑(List.length (locF (synL (fillB w h (List.replicate (127 : Nat) (List.getD (List.set (List.set
  (List.replicate (2 : Nat) false) (0 : Nat) false) (1 : Nat) true) ((0 : Nat) + Int.toNat (↑x : Int)) false)))))) : Int) = (↑(List.length (locF (synL (fillB w h (List.replicate (127 : Nat) (List.getD (List.set (List.set
  (List.replicate (2 : Nat) false) (0 : Nat) false) (1 : Nat) true) ((0 : Nat) + Int.toNat (↑x : Int)) false)))))) : Int) ∧ (0 : Int) = (↑x_1 : Int) ∧ w = w ∧ false = false ∧ h = h ∧ false = false ∧ false :: List.set
  (List.replicate (nat_lit 1) false) (nat_lit 0) true = List.set (List.set (List.replicate (2 : Nat) false) (0 : Nat) false) (1 : Nat) true ∧ false = false ∧ fillB w h (List.replicate (127 : Nat) (List.getD (List.set
  (List.set (List.replicate (2 : Nat) false) (0 : Nat) false) (1 : Nat) true) ((0 : Nat) + Int.toNat (↑x : Int)) false)) = flipF (fillB w h (rep7 (List.getD (List.set (List.set (List.replicate (2 : Nat) false) (0 : Nat)
  false) (1 : Nat) true) ((0 : Nat) + Int.toNat (↑x : Int)) false))) (List.take x_1 (locF (synL (fillB w h (rep7 (List.getD (List.set (List.set (List.replicate (2 : Nat) false) (0 : Nat) false) (1 : Nat) true) ((0 : Nat) +
  Int.toNat (↑x : Int)) false)))))) ∧ false = false ∧ locF (synL (fillB w h (List.replicate (127 : Nat) (List.getD (List.set (List.set (List.replicate (2 : Nat) false) (0 : Nat) false) (1 : Nat) true) ((0 : Nat) + Int.toNat
  (↑x : Int)) false)))) = locF (synL (fillB w h (List.replicate (127 : Nat) (List.getD (List.set (List.set (List.replicate (2 : Nat) false) (0 : Nat) false) (1 : Nat) true) ((0 : Nat) + Int.toNat (↑x : Int)) false)))) ∧
  false = false) ∧ x_1 ≤ List.length (locF (synL (fillB w h (rep7 (List.getD (List.set (List.set (List.replicate (2 : Nat) false) (0 : Nat) false) (1 : Nat) true) ((0 : Nat) + Int.toNat (↑x : Int)) false)))))) ∧ ∀ (x_2 :
  Nat), x_2 ≤ List.length (locF (synL (fillB w h (rep7 (List.getD (List.set (List.set (List.replicate (2 : Nat) false) (0 : Nat) false) (1 : Nat) true) ((0 : Nat) + Int.toNat (↑x : Int)) false))))) → (IntKind.min
  IntKind.i64 ≤ (↑x_2 : Int) ∧ (↑x_2 : Int) ≤ IntKind.max IntKind.i64 ∧ ∀ (y : List Bool), List.Mem y [flipF (fillB w h (rep7 (List.getD (List.set (List.set (List.replicate (2 : Nat) false) (0 : Nat) false) (1 : Nat) true)
  ((0 : Nat) + Int.toNat (↑x : Int)) false))) (List.take x_2 (locF (synL (fillB w h (rep7 (List.getD (List.set (List.set (List.replicate (2 : Nat) false) (0 : Nat) false) (1 : Nat) true) ((0 : Nat) + Int.toNat (↑x : Int))
  false))))))] → List.length y = (127 : Nat) ∧ ∀ (y_1 : Bool), List.Mem y_1 y → True) → bif decide ((↑x_2 : Int) < (↑(List.length (locF (synL (fillB w h (List.replicate (127 : Nat) (List.getD (List.set (List.set
  (List.replicate (2 : Nat) false) (0 : Nat) false) (1 : Nat) true) ((0 : Nat) + Int.toNat (↑x : Int)) false)))))) : Int)) then (((0 : Int) ≤ (↑x_2 : Int) ∧ (↑x_2 : Int) < (↑(List.length (locF (synL (fillB w h
  (List.replicate (127 : Nat) (List.getD (List.set (List.set (List.replicate (2 : Nat) false) (0 : Nat) false) (1 : Nat) true) ((0 : Nat) + Int.toNat (↑x : Int)) false)))))) : Int)) ∧ (0 : Nat) + Int.toNat (↑x_2 : Int) <
  List.length (locF (synL (fillB w h (List.replicate (127 : Nat) (List.getD (List.set (List.set (List.replicate (2 : Nat) false) (0 : Nat) false) (1 : Nat) true) ((0 : Nat) + Int.toNat (↑x : Int)) false)))))) ∧ (((0 : Int)
  ≤ List.getD (locF (synL (fillB w h (List.replicate (127 : Nat) (List.getD (List.set (List.set (List.replicate (2 : Nat) false) (0 : Nat) false) (1 : Nat) true) ((0 : Nat) + Int.toNat (↑x : Int)) false))))) ((0 : Nat) +
  Int.toNat (↑x_2 : Int)) (0 : Int) ∧ List.getD (locF (synL (fillB w h (List.replicate (127 : Nat) (List.getD (List.set (List.set (List.replicate (2 : Nat) false) (0 : Nat) false) (1 : Nat) true) ((0 : Nat) + Int.toNat (↑x
  : Int)) false))))) ((0 : Nat) + Int.toNat (↑x_2 : Int)) (0 : Int) < (↑(127 : Nat) : Int)) ∧ Int.toNat (List.getD (locF (synL (fillB w h (List.replicate (127 : Nat) (List.getD (List.set (List.set (List.replicate (2 : Nat)
  false) (0 : Nat) false) (1 : Nat) true) ((0 : Nat) + Int.toNat (↑x : Int)) false))))) ((0 : Nat) + Int.toNat (↑x_2 : Int)) (0 : Int)) < (127 : Nat) ∧ ((0 : Int) ≤ List.getD (locF (synL (fillB w h (List.replicate (127 :
  Nat) (List.getD (List.set (List.set (List.replicate (2 : Nat) false) (0 : Nat) false) (1 : Nat) true) ((0 : Nat) + Int.toNat (↑x : Int)) false))))) ((0 : Nat) + Int.toNat (↑x_2 : Int)) (0 : Int) ∧ List.getD (locF (synL
  (fillB w h (List.replicate (127 : Nat) (List.getD (List.set (List.set (List.replicate (2 : Nat) false) (0 : Nat) false) (1 : Nat) true) ((0 : Nat) + Int.toNat (↑x : Int)) false))))) ((0 : Nat) + Int.toNat (↑x_2 : Int)) (0
  : Int) < (↑(127 : Nat) : Int)) ∧ Int.toNat (List.getD (locF (synL (fillB w h (List.replicate (127 : Nat) (List.getD (List.set (List.set (List.replicate (2 : Nat) false) (0 : Nat) false) (1 : Nat) true) ((0 : Nat) +
  Int.toNat (↑x : Int)) false))))) ((0 : Nat) + Int.toNat (↑x_2 : Int)) (0 : Int)) < (127 : Nat)) ∧ ∃ (y : Nat), ((0 : Nat) = (0 : Nat) ∧ (0 : Nat) = (0 : Nat) ∧ (0 : Nat) = (0 : Nat) ∧ (0 : Nat) = (0 : Nat) ∧ (2 : Nat) =
  (2 : Nat) ∧ (↑(2 : Nat) : Int) = (↑(2 : Nat) : Int) ∧ (↑x : Int) = (↑x : Int) ∧ (0 : Nat) = (0 : Nat) ∧ List.length (locF (synL (fillB w h (List.replicate (127 : Nat) (List.getD (List.set (List.set (List.replicate (2 :
  Nat) false) (0 : Nat) false) (1 : Nat) true) ((0 : Nat) + Int.toNat (↑x : Int)) false))))) = List.length (locF (synL (fillB w h (List.replicate (127 : Nat) (List.getD (List.set (List.set (List.replicate (2 : Nat) false)
  (0 : Nat) false) (1 : Nat) true) ((0 : Nat) + Int.toNat (↑x : Int)) false))))) ∧ (↑(List.length (locF (synL (fillB w h (List.replicate (127 : Nat) (List.getD (List.set (List.set (List.replicate (2 : Nat) false) (0 : Nat)
  false) (1 : Nat) true) ((0 : Nat) + Int.toNat (↑x : Int)) false)))))) : Int) = (↑(List.length (locF (synL (fillB w h (List.replicate (127 : Nat) (List.getD (List.set (List.set (List.replicate (2 : Nat) false) (0 : Nat)
  false) (1 : Nat) true) ((0 : Nat) + Int.toNat (↑x : Int)) false)))))) : Int) ∧ IntKind.wrap IntKind.i64 ((↑x_2 : Int) + (1 : Int)) = (↑y : Int) ∧ w = w ∧ false = false ∧ h = h ∧ false = false ∧ false :: List.set
  (List.replicate (nat_lit 1) false) (nat_lit 0) true = List.set (List.set (List.replicate (2 : Nat) false) (0 : Nat) false) (1 : Nat) true ∧ false = false ∧ (List.set (flipF (fillB w h (rep7 (List.getD (List.set (List.set
  (List.replicate (2 : Nat) false) (0 : Nat) false) (1 : Nat) true) ((0 : Nat) + Int.toNat (↑x : Int)) false))) (List.take x_2 (locF (synL (fillB w h (rep7 (List.getD (List.set (List.set (List.replicate (2 : Nat) false) (0
  : Nat) false) (1 : Nat) true) ((0 : Nat) + Int.toNat (↑x : Int)) false))))))) (Int.toNat (List.getD (locF (synL (fillB w h (List.replicate (127 : Nat) (List.getD (List.set (List.set (List.replicate (2 : Nat) false) (0 :
  Nat) false) (1 : Nat) true) ((0 : Nat) + Int.toNat (↑x : Int)) false))))) ((0 : Nat) + Int.toNat (↑x_2 : Int)) (0 : Int))) !List.getD (flipF (fillB w h (rep7 (List.getD (List.set (List.set (List.replicate (2 : Nat) false)
  (0 : Nat) false) (1 : Nat) true) ((0 : Nat) + Int.toNat (↑x : Int)) false))) (List.take x_2 (locF (synL (fillB w h (rep7 (List.getD (List.set (List.set (List.replicate (2 : Nat) false) (0 : Nat) false) (1 : Nat) true) ((0
  : Nat) + Int.toNat (↑x : Int)) false))))))) (Int.toNat (List.getD (locF (synL (fillB w h (List.replicate (127 : Nat) (List.getD (List.set (List.set (List.replicate (2 : Nat) false) (0 : Nat) false) (1 : Nat) true) ((0 :
  Nat) + Int.toNat (↑x : Int)) false))))) ((0 : Nat) + Int.toNat (↑x_2 : Int)) (0 : Int))) false) = flipF (fillB w h (rep7 (List.getD (List.set (List.set (List.replicate (2 : Nat) false) (0 : Nat) false) (1 : Nat) true) ((0
  : Nat) + Int.toNat (↑x : Int)) false))) (List.take y (locF (synL (fillB w h (rep7 (List.getD (List.set (List.set (List.replicate (2 : Nat) false) (0 : Nat) false) (1 : Nat) true) ((0 : Nat) + Int.toNat (↑x : Int))
  false)))))) ∧ false = false ∧ locF (synL (fillB w h (List.replicate (127 : Nat) (List.getD (List.set (List.set (List.replicate (2 : Nat) false) (0 : Nat) false) (1 : Nat) true) ((0 : Nat) + Int.toNat (↑x : Int)) false))))
  = locF (synL (fillB w h (List.replicate (127 : Nat) (List.getD (List.set (List.set (List.replicate (2 : Nat) false) (0 : Nat) false) (1 : Nat) true) ((0 : Nat) + Int.toNat (↑x : Int)) false)))) ∧ false = false) ∧ y ≤
  List.length (locF (synL (fillB w h (rep7 (List.getD (List.set (List.set (List.replicate (2 : Nat) false) (0 : Nat) false) (1 : Nat) true) ((0 : Nat) + Int.toNat (↑x : Int)) false))))) ∧ List.length (locF (synL (fillB w h
  (rep7 (List.getD (List.set (List.set (List.replicate (2 : Nat) false) (0 : Nat) false) (1 : Nat) true) ((0 : Nat) + Int.toNat (↑x : Int)) false))))) - y < List.length (locF (synL (fillB w h (rep7 (List.getD (List.set
  (List.set (List.replicate (2 : Nat) false) (0 : Nat) false) (1 : Nat) true) ((0 : Nat) + Int.toNat (↑x : Int)) false))))) - x_2 else bif nearB w h (flipF (fillB w h (rep7 (List.getD (List.set (List.set (List.replicate (2
  : Nat) false) (0 : Nat) false) (1 : Nat) true) ((0 : Nat) + Int.toNat (↑x : Int)) false))) (List.take x_2 (locF (synL (fillB w h (rep7 (List.getD (List.set (List.set (List.replicate (2 : Nat) false) (0 : Nat) false) (1 :
  Nat) true) ((0 : Nat) + Int.toNat (↑x : Int)) false))))))) then infI (flipF (fillB w h (rep7 (List.getD (List.set (List.set (List.replicate (2 : Nat) false) (0 : Nat) false) (1 : Nat) true) ((0 : Nat) + Int.toNat (↑x :
  Int)) false))) (List.take x_2 (locF (synL (fillB w h (rep7 (List.getD (List.set (List.set (List.replicate (2 : Nat) false) (0 : Nat) false) (1 : Nat) true) ((0 : Nat) + Int.toNat (↑x : Int)) false))))))) = amI w h ∧ (0 :
  Int) = amE w h else ∃ (y : Nat), ((0 : Nat) = (0 : Nat) ∧ (0 : Nat) = (0 : Nat) ∧ (0 : Nat) = (0 : Nat) ∧ (2 : Nat) = (2 : Nat) ∧ (↑(2 : Nat) : Int) = (↑(2 : Nat) : Int) ∧ IntKind.wrap IntKind.i64 ((↑x : Int) + (1 : Int))
  = (↑y : Int) ∧ w = w ∧ false = false ∧ h = h ∧ false = false ∧ false :: List.set (List.replicate (nat_lit 1) false) (nat_lit 0) true = List.set (List.set (List.replicate (2 : Nat) false) (0 : Nat) false) (1 : Nat) true ∧
  false = false) ∧ (y ≤ (2 : Nat) ∧ ((1 : Nat) ≤ y → tryB w h false = false) ∧ ((2 : Nat) ≤ y → tryB w h true = false)) ∧ (2 : Nat) - y < (2 : Nat) - x else (0 : Int) = amI w h ∧ (5 : Int) = amE w h
theorem vc71 (w h : List Bool) : P71 w h = vcFun C71 (ann71 w h) Go.Proofs.Tryd.f72 [⟨.arr 127 .bool, w⟩, ⟨.arr 127 .bool, h⟩] [] (out71 w h) := by kernel_rfl

end Go.SL.A

/- Amending. -/
namespace Go.SL.A
open Go Go.SL Go.SL.S
set_option maxRecDepth 100000

theorem hw71 {a b : List Bool} (hw : Go.SL.allP (List.flatMap (fun a : AV => a.t.wf a.x) [⟨.arr 127 .bool, a⟩, ⟨.arr 127 .bool, b⟩] ++ List.flatMap Blk.wf [])) : a.length = 127 ∧ b.length = 127 := hw109 hw

theorem locF_rng (s : List Int) : (locF s).length ≤ 127 ∧ ∀ x ∈ locF s, 0 ≤ x ∧ x < 127 := by
  unfold locF
  cases locB s with
  | false => simp
  | true =>
    rw [if_pos rfl]
    refine ⟨locL_len _ _, fun x hx => ?_⟩
    unfold locL at hx
    obtain ⟨k, hk, rfl⟩ := List.mem_map.1 hx
    have := List.mem_range.1 (List.mem_filter.1 hk).1
    omega
theorem flip_step (c : List Bool) (l : List Int) {k : Nat} (hk : k < l.length) : List.set (flipF c (List.take k l)) (l.getD k 0).toNat (!(List.getD (flipF c (List.take k l)) (l.getD k 0).toNat false)) = flipF c (List.take (k + 1) l) := by
  rw [take_snoc' (0 : Int) hk]
  unfold flipF
  rw [List.foldl_append]; rfl
theorem amd_next {w h : List Bool} {i : Nat} (hi : i < 2) (h1 : 1 ≤ i → tryB w h false = false) (ht : tryB w h (decide (i = 1)) = false) : i + 1 ≤ 2 ∧ (1 ≤ i + 1 → tryB w h false = false) ∧ (2 ≤ i + 1 → tryB w h true = false) := by
  rcases (show i = 0 ∨ i = 1 by omega) with rfl | rfl
  · exact ⟨by omega, fun _ => ht, fun h => absurd h (by omega)⟩
  · exact ⟨by omega, fun _ => h1 (by omega), fun _ => ht⟩

theorem pure71 (w h : List Bool) (hl : w.length = 127 ∧ h.length = 127) : P71 w h := by
  unfold P71
  simp only [eq_self, true_and, and_true, Int.toNat_natCast, Nat.zero_add]
  refine ⟨0, ⟨⟨rfl, rfl⟩, by omega, by omega, by omega⟩, fun i hi hw => ?_⟩
  clear hw
  obtain ⟨h2, i1, i2⟩ := hi
  by_cases hc : (i : Int) < ((2 : Nat) : Int)
  · have hi2 : i < 2 := by omega
    have hb : List.getD (List.set (List.set (List.replicate 2 false) 0 false) 1 true) i false = decide (i = 1) := by
      rcases (show i = 0 ∨ i = 1 by omega) with rfl | rfl <;> rfl
    have hn := amd_next hi2 i1
    have hT : tryB w h (decide (i = 1)) = (locB (synL (fillB w h (List.replicate 127 (decide (i = 1))))) && nearB w h (tryW w h (decide (i = 1)))) := rfl
    have hW : tryW w h (decide (i = 1)) = flipF (fillB w h (List.replicate 127 (decide (i = 1)))) (locF (synL (fillB w h (List.replicate 127 (decide (i = 1)))))) := rfl
    have hA : tryB w h (decide (i = 1)) = true → infI (tryW w h (decide (i = 1))) = amI w h ∧ 0 = amE w h := by
      intro ht
      unfold amI amE
      rcases (show i = 0 ∨ i = 1 by omega) with rfl | rfl
      · have ht : tryB w h false = true := ht
        rw [ht]; exact ⟨rfl, rfl⟩
      · have ht : tryB w h true = true := ht
        rw [i1 (by omega), ht]; exact ⟨rfl, rfl⟩
    rw [decide_eq_true hc, cond_true, hb]
    generalize decide (i = 1) = b at *
    have sl := synL_len (fillB w h (List.replicate 127 b))
    have fl := fillB_len w h (List.replicate 127 b)
    obtain ⟨lr1, lr2⟩ := locF_rng (synL (fillB w h (List.replicate 127 b)))
    have hs := step_i (i := i) (by omega)
    generalize fillB w h (List.replicate 127 b) = C at *
    generalize locF (synL C) = l at *
    refine ⟨⟨⟨by omega, by omega⟩, by omega⟩, ⟨sl.symm, by omega⟩, ?_⟩
    cases hB : locB (synL C) with
    | false =>
      rw [hB, Bool.false_and] at hT
      rw [Bool.not_false, cond_true]
      obtain ⟨n1, n2, n3⟩ := hn hT
      exact ⟨i + 1, ⟨hs, rfl⟩, ⟨n1, n2, n3⟩, by omega⟩
    | true =>
      rw [hB, Bool.true_and] at hT
      rw [Bool.not_true, cond_false]
      refine ⟨0, ⟨⟨rfl, rfl, rfl⟩, by omega⟩, fun k hk hw => ?_⟩
      clear hw
      by_cases hk2 : (k : Int) < (l.length : Int)
      · have hx := lr2 _ (getD_mem (d := 0) (show k < l.length by omega))
        have hf := flip_step C l (show k < l.length by omega)
        rw [decide_eq_true hk2, cond_true]
        refine ⟨⟨⟨by omega, by omega⟩, by omega⟩, ⟨⟨by omega, by omega⟩, by omega, ⟨by omega, by omega⟩, by omega⟩, k + 1, ⟨step_i (by omega), rfl, hf⟩, by omega, by omega⟩
      · have : k = l.length := by omega
        subst this
        rw [decide_eq_false hk2, cond_false, List.take_length, ← hW]
        cases hN : nearB w h (tryW w h b) with
        | true =>
          rw [cond_true]
          exact hA (by rw [hT, hN])
        | false =>
          rw [cond_false]
          obtain ⟨n1, n2, n3⟩ := hn (by rw [hT, hN])
          exact ⟨i + 1, ⟨hs, rfl⟩, ⟨n1, n2, n3⟩, by omega⟩
  · have : i = 2 := by omega
    subst this
    rw [decide_eq_false hc, cond_false]
    unfold amI amE
    rw [i1 (by omega), i2 (by omega)]
    exact ⟨rfl, rfl⟩
end Go.SL.A

/- Functions do what they are held to do. -/
namespace Go.SL.A
open Go Go.SL Go.SL.S
theorem snd71 : Sound Go.Proofs.Tryd.prog G71 := snd76.add ⟨_, Go.Proofs.Tryd.func72, by kernel_rfl, by kernel_rfl⟩ (by
  intro args ins out h hp
  unfold sp71 at h
  split at h
  · rename_i w h
    cases h
    exact vcFun_ok (C := C71) good snd76 Meth.none mix Go.Proofs.Tryd.func72 (ann71 w h) (fun hw => by rw [← vc71 w h]; exact pure71 w h (hw71 hw))
  · cases h)

end Go.SL.A

/- Codewords: plain facts. -/
namespace Go.SL.A
open Go Go.SL Go.SL.S
set_option maxRecDepth 100000

theorem sy_xor (a b : Nat → Bool) (k : Nat) : sy (fun i => a i != b i) k = sy a k ^^^ sy b k := by
  unfold sy
  rw [← xs_xor]
  refine xs_congr fun i _ => ?_
  show (if (a i != b i) = true then ex (i * k) else 0) = (if a i = true then ex (i * k) else 0) ^^^ (if b i = true then ex (i * k) else 0)
  cases a i <;> cases b i <;> simp
theorem sy_congr {a b : Nat → Bool} (h : ∀ i, i < 127 → a i = b i) (k : Nat) : sy a k = sy b k := by
  unfold sy
  exact xs_congr fun i hi => by rw [h i hi]
theorem sy_none {a : Nat → Bool} (h : ∀ i, i < 127 → a i = false) (k : Nat) : sy a k = 0 := by
  unfold sy
  exact xs_zero fun i hi => by rw [h i hi]; rfl

/-- A codeword: its sums at the twenty powers are 0. -/
def cw (a : Nat → Bool) : Prop := ∀ k, k < 20 → sy a (k + 1) = 0
theorem cw_xor {a b : Nat → Bool} (ha : cw a) (hb : cw b) : cw (fun i => a i != b i) := fun k hk => by
  rw [sy_xor, ha k hk, hb k hk]; rfl
theorem cw_congr {a b : Nat → Bool} (h : ∀ i, i < 127 → a i = b i) (ha : cw a) : cw b := fun k hk => by
  rw [← sy_congr h]; exact ha k hk

theorem synL_getD (w : List Bool) {k : Nat} (hk : k < 20) : (synL w).getD k 0 = ofE (sy (bw w) (k + 1)) := synTo_getD w 127 hk
theorem isB_cw (w : List Bool) : isB w = true ↔ cw (bw w) := by
  unfold isB
  rw [List.all_eq_true]
  constructor
  · intro h k hk
    have hm := getD_mem (d := 0) (show k < (synL w).length by rw [synL_len]; exact hk)
    have h1 := of_decide_eq_true (h _ hm)
    rw [synL_getD w hk] at h1
    have h2 := congrArg toE h1
    rw [toE_ofE] at h2
    exact h2
  · intro h x hx
    have hx : x ∈ (List.range 20).map fun j => ofE (sy (bw w) (j + 1)) := hx
    obtain ⟨j, hj, rfl⟩ := List.mem_map.1 hx
    rw [h j (List.mem_range.1 hj)]
    decide

/-- Two codewords that are near are the same. -/
theorem cw_far {a b : Nat → Bool} (ha : cw a) (hb : cw b) (h : cn 127 (fun i => a i != b i) ≤ 20) : ∀ i, i < 127 → a i = b i := by
  intro i hi
  have hv := vander 127 (Nat.le_refl _) 20 (fun i => if (a i != b i) = true then ex i else 0) (Nat.le_trans (cn_le fun j _ hj => by
      cases hd : (a j != b j) with
      | true => rfl
      | false => rw [hd] at hj; simp at hj) h) (fun k hk => by
      have e := cw_xor ha hb k hk
      unfold sy at e
      refine (xs_congr fun j _ => ?_).trans e
      show ml (if (a j != b j) = true then ex j else 0) (ex (j * k)) = if (a j != b j) = true then ex (j * (k + 1)) else 0
      split
      · rw [ml_exex, Nat.mul_succ, Nat.add_comm]
      · exact zero_ml _) i hi
  cases hd : (a i != b i) with
  | false => simpa using hd
  | true =>
    simp only [hd, if_true] at hv
    exact absurd hv (ex_ne i)

/-! ### Squares -/
theorem sq_xor (a b : E) : ml (a ^^^ b) (a ^^^ b) = ml a a ^^^ ml b b := by
  rw [ml_xor, xor_ml, xor_ml, ml_comm b a, BitVec.xor_assoc, xor_sl]
theorem sq_xs (f : Nat → E) : ∀ n, ml (xs n f) (xs n f) = xs n (fun i => ml (f i) (f i))
  | 0 => zero_ml _
  | n + 1 => by
    show ml (xs n f ^^^ f n) (xs n f ^^^ f n) = xs n (fun i => ml (f i) (f i)) ^^^ ml (f n) (f n)
    rw [sq_xor, sq_xs f n]
theorem sy_sq (w : Nat → Bool) (k : Nat) : sy w (k * 2) = ml (sy w k) (sy w k) := by
  unfold sy
  rw [sq_xs]
  refine xs_congr fun i _ => ?_
  show (if w i = true then ex (i * (k * 2)) else 0) = ml (if w i = true then ex (i * k) else 0) (if w i = true then ex (i * k) else 0)
  cases w i with
  | false => exact (zero_ml _).symm
  | true =>
    show ex (i * (k * 2)) = ml (ex (i * k)) (ex (i * k))
    rw [ml_exex, ← Nat.mul_assoc, Nat.mul_two]
theorem sy_pow {w : Nat → Bool} {k : Nat} (h : sy w k = 0) : ∀ j, sy w (k * 2 ^ j) = 0
  | 0 => by rw [Nat.pow_zero, Nat.mul_one]; exact h
  | j + 1 => by rw [Nat.pow_succ, ← Nat.mul_assoc, sy_sq, sy_pow h j, zero_ml]
theorem sy_mod (w : Nat → Bool) (m : Nat) : sy w (m % 127) = sy w m := by
  unfold sy
  refine xs_congr fun i _ => ?_
  have e : ex (i * (m % 127)) = ex (i * m) := by
    rw [← ex_mod (i * (m % 127)), ← ex_mod (i * m), Nat.mul_mod_mod]
  rw [e]

def rts : List Nat := (List.range 127).filter fun m => (List.range 140).any fun r => decide ((r / 7 + 1) * 2 ^ (r % 7) % 127 = m)
theorem rts_len : rts.length = 63 := by decide +kernel
theorem cw_rts {w : Nat → Bool} (h : cw w) : ∀ m ∈ rts, sy w m = 0 := by
  intro m hm
  obtain ⟨_, h2⟩ := List.mem_filter.1 hm
  obtain ⟨r, hr, e⟩ := List.any_eq_true.1 h2
  have e := of_decide_eq_true e
  rw [← e, sy_mod]
  exact sy_pow (h (r / 7) (by have := List.mem_range.1 hr; omega)) _
theorem rts_nodup : (rts.map ex).Nodup := by
  rw [List.Nodup, List.pairwise_map]
  have hnd : rts.Nodup := List.Pairwise.filter _ List.nodup_range
  refine List.Pairwise.imp_of_mem ?_ hnd
  intro a b ha hb hab e
  exact hab (ex_inj (List.mem_range.1 (List.mem_filter.1 ha).1) (List.mem_range.1 (List.mem_filter.1 hb).1) e)

/-- A codeword whose last 64 bits are 0 is 0. -/
theorem cw_top {w : Nat → Bool} (h : cw w) (ht : ∀ i, 63 ≤ i → i < 127 → w i = false) : ∀ i, i < 127 → w i = false := by
  obtain ⟨p, hp0⟩ : ∃ p : List E, p = (List.range 63).map fun i => if w i = true then (1 : E) else 0 := ⟨_, rfl⟩
  have hl : p.length = 63 := by rw [hp0]; simp
  have hp : ∀ m, evl p (ex m) = sy w m := fun m => by
    rw [evl_xs, hl]
    unfold sy
    rw [xs_more (n := 63) (m := 127) (by omega) fun i h1 h2 => by rw [ht i h1 h2]; rfl]
    refine xs_congr fun j hj => ?_
    have e : p.getD j 0 = if w j = true then 1 else 0 := by
      rw [hp0, List.getD_eq_getElem?_getD, List.getElem?_map, List.getElem?_range hj]; rfl
    rw [e, Nat.mul_comm]
    split
    · exact ml_one _
    · exact zero_ml _
  have hz := roots_le (rts.map ex) p rts_nodup (by rw [List.length_map, rts_len, hl]; exact Nat.le_refl _) (fun x hx => by
    obtain ⟨m, hm, rfl⟩ := List.mem_map.1 hx
    rw [hp]; exact cw_rts h m hm)
  intro i hi
  by_cases h63 : i < 63
  · have := hz (if w i = true then 1 else 0) (by rw [hp0]; exact List.mem_map.2 ⟨i, List.mem_range.2 h63, rfl⟩)
    cases hw : w i with
    | false => rfl
    | true => rw [hw] at this; exact absurd this (by decide)
  · exact ht i (by omega) hi
theorem cw_eq {a b : Nat → Bool} (ha : cw a) (hb : cw b) (h : ∀ i, 63 ≤ i → i < 127 → a i = b i) : ∀ i, i < 127 → a i = b i := fun i hi => by
  have h1 : (a i != b i) = false := cw_top (cw_xor ha hb) (fun i h1 h2 => by
    show (a i != b i) = false
    rw [h i h1 h2]; cases b i <;> rfl) i hi
  simpa using h1

/-! ### What is encoded is a codeword -/
def shG (s i : Nat) : Bool := decide (s ≤ i ∧ i < s + 64) && genB (i - s)
theorem shG_cw {s : Nat} (hs : s ≤ 63) : cw (shG s) := by
  intro k hk
  have hz := of_decide_eq_true (List.all_eq_true.1 gen_zero k (List.mem_range.2 hk))
  rw [evl_xs, List.length_map, genF_len] at hz
  unfold sy
  have e := xs_shift (fun i => if shG s i = true then ex (i * (k + 1)) else 0) s (127 - s) (fun i hi => by
    have h0 : shG s i = false := by unfold shG; rw [decide_eq_false (by omega)]; rfl
    rw [h0]; rfl)
  rw [show 127 - s + s = 127 by omega] at e
  rw [e, xs_more (n := 64) (m := 127 - s) (by omega) fun i h1 h2 => by
    have h0 : shG s (i + s) = false := by unfold shG; rw [decide_eq_false (by omega)]; rfl
    rw [h0]; rfl]
  have e2 : ∀ i, i < 64 → (if shG s (i + s) = true then ex ((i + s) * (k + 1)) else 0) = ml (ex (s * (k + 1))) (ml ((genF.map toE).getD i 0) (ex ((k + 1) * i))) := fun i hi => by
    have h1 : shG s (i + s) = genB i := by unfold shG; rw [decide_eq_true (by omega), Bool.true_and, Nat.add_sub_cancel]
    have h2 : (genF.map toE).getD i 0 = if genB i = true then 1 else 0 := by
      rw [map_toE_getD (by rw [genF_len]; exact hi), genF_num]
      cases genB i <;> rfl
    rw [h1, h2]
    cases genB i with
    | false =>
      rw [if_neg (by simp), if_neg (by simp), zero_ml, ml_zero]
    | true =>
      rw [if_pos rfl, if_pos rfl, ml_one, ml_exex, Nat.add_mul, Nat.add_comm, Nat.mul_comm (k + 1) i]
  rw [xs_congr e2, ← xs_ml, hz, ml_zero]

theorem div_top (x : Int) (n : Nat) : n ≤ 64 → ∀ i, 127 - n ≤ i → i < 127 → bw (divTo x n) i = false := by
  induction n with
  | zero => intro _ i h1 h2; omega
  | succ n ih =>
    intro hn i h1 h2
    have ih := ih (by omega)
    rw [divTo]
    split
    · rename_i hb
      rw [xorP_bw _ _ _ h2]
      by_cases e : i = 126 - n
      · have hg : genB 63 = true := by unfold genB; rw [gen_last]; rfl
        rw [if_pos (by omega), e, hb, show 126 - n - (63 - n) = 63 by omega, hg]; rfl
      · rw [if_neg (by omega)]; exact ih i (by omega) h2
    · rename_i hb
      by_cases e : i = 126 - n
      · rw [e]; simpa using hb
      · exact ih i (by omega) h2
theorem xorP_sh (r : List Bool) (s : Nat) {i : Nat} (hi : i < 127) : bw (xorP r s 64) i = (bw r i != shG s i) := by
  rw [xorP_bw _ _ _ hi]
  unfold shG
  by_cases h : s ≤ i ∧ i < s + 64
  · rw [if_pos h, decide_eq_true h, Bool.true_and]
  · rw [if_neg h, decide_eq_false h, Bool.false_and]; cases bw r i <;> rfl
theorem div_sy (x : Int) {k : Nat} (hk : k < 20) (n : Nat) : n ≤ 64 → sy (bw (divTo x n)) (k + 1) = sy (bw (encW x)) (k + 1) := by
  induction n with
  | zero => intro _; rfl
  | succ n ih =>
    intro hn
    rw [divTo]
    split
    · rw [sy_congr (fun i hi => xorP_sh (divTo x n) (63 - n) hi), sy_xor, shG_cw (by omega) k hk, xz, ih (by omega)]
    · exact ih (by omega)
theorem encW_bw (x : Int) {i : Nat} (hi : i < 127) : bw (encW x) i = (decide (63 ≤ i ∧ i < 127) && bitX x (i - 63)) := by
  unfold bw encW
  rw [List.getD_eq_getElem?_getD, encTo_at x 64 hi]; rfl
theorem enc_len (x : Int) : (encF x).length = 127 := by
  unfold encF encW
  rw [List.length_append, List.length_take, List.length_drop, divTo_len, encTo_len]; rfl
theorem enc_low (x : Int) {i : Nat} (hi : i < 63) : bw (encF x) i = bw (divTo x 64) i := by
  unfold encF bw
  rw [List.getD_eq_getElem?_getD, List.getElem?_append_left (by rw [List.length_take, divTo_len]; omega), List.getElem?_take, if_pos hi, ← List.getD_eq_getElem?_getD]
theorem enc_high (x : Int) {i : Nat} (h1 : 63 ≤ i) : bw (encF x) i = bw (encW x) i := by
  unfold encF bw
  have hl : ((divTo x 64).take 63).length = 63 := by rw [List.length_take, divTo_len]; rfl
  rw [List.getD_eq_getElem?_getD, List.getElem?_append_right (by rw [hl]; exact h1), List.getElem?_drop, hl, show 63 + (i - 63) = i by omega, ← List.getD_eq_getElem?_getD]
theorem enc_bw (x : Int) {i : Nat} (hi : i < 127) : bw (encF x) i = (bw (divTo x 64) i != bw (encW x) i) := by
  by_cases h : i < 63
  · rw [enc_low x h, encW_bw x hi, decide_eq_false (by omega), Bool.false_and]; cases bw (divTo x 64) i <;> rfl
  · rw [enc_high x (by omega), div_top x 64 (Nat.le_refl _) i (by omega) hi]; cases bw (encW x) i <;> rfl
theorem enc_cw (x : Int) : cw (bw (encF x)) := fun k hk => by
  rw [sy_congr (fun i hi => enc_bw x hi), sy_xor, div_sy x hk 64 (Nat.le_refl _), BitVec.xor_self]; rfl
theorem enc_top (x : Int) {i : Nat} (h1 : 63 ≤ i) (h2 : i < 127) : bw (encF x) i = bitX x (i - 63) := by
  rw [enc_high x h1, encW_bw x h2, decide_eq_true ⟨h1, h2⟩, Bool.true_and]

/-! ### What a codeword tells -/
theorem pow_pos2 (n : Nat) : (0 : Int) < 2 ^ n := Int.pow_pos (by decide)
theorem bit_add (a c : Int) (j : Nat) : bitX (a + 2 * c * 2 ^ j) j = bitX a j := by
  unfold bitX
  rw [Int.add_mul_ediv_right _ _ (Int.ne_of_gt (pow_pos2 j)), Int.add_mul_emod_self_left]
theorem info_bit (w : List Bool) (n : Nat) : ∀ j, j < n → bitX (infTo w n) j = bw w (63 + j) := by
  induction n with
  | zero => intro j hj; omega
  | succ n ih =>
    intro j hj
    have hf := infTo_fit w n
    show bitX (infTo w n + (if bw w (63 + n) = true then 2 ^ n else 0)) j = _
    by_cases e : j = n
    · subst e
      have h0 : infTo w j / 2 ^ j = 0 := Int.ediv_eq_zero_of_lt hf.1 hf.2
      cases hb : bw w (63 + j) with
      | false =>
        rw [if_neg (by simp), Int.add_zero]
        unfold bitX; rw [h0]; rfl
      | true =>
        rw [if_pos rfl]
        unfold bitX
        have := Int.add_mul_ediv_right (infTo w j) 1 (Int.ne_of_gt (pow_pos2 j))
        rw [Int.one_mul] at this
        rw [this, h0]; rfl
    · cases hb : bw w (63 + n) with
      | false => rw [if_neg (by simp), Int.add_zero]; exact ih j (by omega)
      | true =>
        obtain ⟨m, rfl⟩ : ∃ m, n = m + 1 + j := ⟨n - j - 1, by omega⟩
        rw [if_pos rfl]
        have e2 : (2 : Int) ^ (m + 1 + j) = 2 * 2 ^ m * 2 ^ j := by rw [Int.pow_add, Int.pow_succ, Int.mul_comm (2 ^ m) 2]
        rw [e2, bit_add]
        exact ih j (by omega)
theorem bw_ext {a b : List Bool} (ha : a.length = 127) (hb : b.length = 127) (h : ∀ i, i < 127 → bw a i = bw b i) : a = b := by
  refine List.ext_getElem? fun i => ?_
  by_cases hi : i < 127
  · have := h i hi
    unfold bw at this
    rw [List.getD_eq_getElem?_getD, List.getD_eq_getElem?_getD, List.getElem?_eq_getElem (by omega), List.getElem?_eq_getElem (by omega)] at this
    rw [List.getElem?_eq_getElem (by omega), List.getElem?_eq_getElem (by omega)]
    exact congrArg some this
  · rw [List.getElem?_eq_none (by omega), List.getElem?_eq_none (by omega)]
theorem enc_info {c : List Bool} (hl : c.length = 127) (hc : cw (bw c)) : encF (infI c) = c := by
  refine bw_ext (enc_len _) hl (cw_eq (enc_cw _) hc fun i h1 h2 => ?_)
  rw [enc_top _ h1 h2]
  have := info_bit c 64 (i - 63) (by omega)
  rw [show 63 + (i - 63) = i by omega] at this
  exact this
theorem info_enc {x : Int} (hx : 0 ≤ x ∧ x ≤ 18446744073709551615) : infI (encF x) = x := by
  have all : ∀ n, n ≤ 64 → infTo (encF x) n + 2 ^ n * (x / 2 ^ n) = x := by
    intro n
    induction n with
    | zero => intro _; rw [infTo, Int.pow_zero, Int.ediv_one, Int.one_mul, Int.zero_add]
    | succ n ih =>
      intro hn
      have ih := ih (by omega)
      have hb : bw (encF x) (63 + n) = decide (x / 2 ^ n % 2 = 1) := by
        rw [enc_top x (by omega) (by omega), show 63 + n - 63 = n by omega]; rfl
      have hq : x / 2 ^ (n + 1) = x / 2 ^ n / 2 := by rw [Int.pow_succ, Int.ediv_ediv_of_nonneg (Int.le_of_lt (pow_pos2 n))]
      rw [infTo, hb, hq, Int.pow_succ]
      generalize (2 : Int) ^ n = P at *
      generalize x / P = q at *
      have e : q = 2 * (q / 2) + q % 2 := by omega
      have hm : P * q = P * 2 * (q / 2) + P * (q % 2) := by
        conv => lhs; rw [e, Int.mul_add, ← Int.mul_assoc]
      rcases (show q % 2 = 0 ∨ q % 2 = 1 by omega) with h | h
      · rw [h, Int.mul_zero, Int.add_zero] at hm
        rw [h, if_neg (by simp), Int.add_zero, ← hm]; exact ih
      · rw [h, Int.mul_one] at hm
        rw [h, if_pos (by simp), Int.add_assoc, Int.add_comm P, ← hm]; exact ih
  have h64 := all 64 (Nat.le_refl _)
  have p64 : (2 : Int) ^ 64 = 18446744073709551616 := by decide
  have e : x / 2 ^ 64 = 0 := Int.ediv_eq_zero_of_lt hx.1 (by rw [p64]; omega)
  rw [e, Int.mul_zero, Int.add_zero] at h64
  exact h64
theorem info_fit (w : List Bool) : 0 ≤ infI w ∧ infI w ≤ 18446744073709551615 := by
  have := infTo_fit w 64
  have e : (2 : Int) ^ 64 = 18446744073709551616 := by decide
  rw [e] at this
  unfold infI
  omega
end Go.SL.A

/- The search finds few errors: plain facts. -/
namespace Go.SL.A
open Go Go.SL Go.SL.S
set_option maxRecDepth 100000

def cf (c : List Int) (i : Nat) : E := toE (c.getD i 0)
theorem cf_none {c : List Int} {i : Nat} (h : c.length ≤ i) : cf c i = 0 := by
  unfold cf; rw [List.getD_eq_getElem?_getD, List.getElem?_eq_none h]; rfl
def tS (w : List Bool) : Nat → E := one0 (sy (bw w))
theorem tS_at (w : List Bool) {k : Nat} (hk : k < 20) : tS w (k + 1) = toE ((synL w).getD k 0) := by
  rw [synL_getD w hk, toE_ofE]
  unfold tS one0
  rw [if_neg (by omega)]

theorem disc_sum {w : List Bool} {c : List Int} {n : Nat} (hn : n < 20) (h0 : cf c 0 = 1) (k : Nat) : k ≤ n → toE (discTo c (synL w) n k) = xs (k + 1) fun i => ml (cf c i) (tS w (n + 1 - i)) := by
  induction k with
  | zero =>
    intro _
    show toE ((synL w).getD n 0) = 0 ^^^ ml (cf c 0) (tS w (n + 1))
    rw [h0, ml_one, zx, tS_at w hn]
  | succ k ih =>
    intro hk
    show toE (ofE (toE (discTo c (synL w) n k) ^^^ ml (cf c (k + 1)) (toE ((synL w).getD (n - (k + 1)) 0)))) = xs (k + 1) (fun i => ml (cf c i) (tS w (n + 1 - i))) ^^^ ml (cf c (k + 1)) (tS w (n + 1 - (k + 1)))
    rw [toE_ofE, ih (by omega), show n + 1 - (k + 1) = n - (k + 1) + 1 by omega, tS_at w (by omega)]
theorem disc_cv {w : List Bool} {c : List Int} {n L : Nat} (hn : n < 20) (h0 : cf c 0 = 1) (hd : ∀ i, L < i → cf c i = 0) (hL : L ≤ n) : toE (discF c (synL w) L n) = cv (cf c) (tS w) (n + 1) := by
  unfold discF cv
  rw [disc_sum hn h0 _ (by omega)]
  symm
  refine xs_more (by omega) fun i h1 h2 => ?_
  have e : cf c i = 0 := by
    by_cases h : L < i
    · exact hd i h
    · exact cf_none (by omega)
  rw [e, zero_ml]

theorem inv_ml {a : Int} (h : toE a ≠ 0) : ml (toE (invI a)) (toE a) = 1 := by
  have e := ex_lg h
  have hl := lg_fit h
  have : ml (ex ((127 - lgN (toE a)) % 127)) (ex (lgN (toE a))) = 1 := by
    rw [ml_exex]
    by_cases h0 : lgN (toE a) = 0
    · rw [h0]; rfl
    · rw [Nat.mod_eq_of_lt (by omega), show 127 - lgN (toE a) + lgN (toE a) = 127 by omega, ex127]
  rw [e] at this
  unfold invI
  rw [if_neg h, toE_ofE]
  exact this

theorem padI_getD (c : List Int) (n j : Nat) : (padI c n).getD j 0 = c.getD j 0 := by
  unfold padI
  rw [List.getD_eq_getElem?_getD, List.getD_eq_getElem?_getD]
  by_cases h : j < c.length
  · rw [List.getElem?_append_left h]
  · rw [List.getElem?_append_right (by omega), List.getElem?_eq_none (l := c) (by omega), List.getElem?_replicate]
    split <;> rfl
theorem growI_cf (c b : List Int) (g : Nat) (a : Int) : cf (growI c b g a) = S.grow (cf c) (cf b) g (toE a) := by
  funext i
  unfold S.grow
  by_cases h : i < max c.length (b.length + g)
  · have e := growP_getD (padI c (b.length + g)) b g a b.length (j := i) (by rw [padI_len]; exact h)
    rw [padI_getD] at e
    show toE ((growP (padI c (b.length + g)) b g a b.length).getD i 0) = _
    rw [e]
    by_cases h2 : g ≤ i ∧ i < g + b.length
    · rw [if_pos h2, toE_ofE, if_neg (by omega)]; rfl
    · rw [if_neg h2]
      show cf c i = _
      by_cases h3 : i < g
      · rw [if_pos h3, xz]
      · rw [if_neg h3, cf_none (c := b) (by omega), ml_zero, xz]
  · rw [cf_none (c := growI c b g a) (by rw [growI_len]; omega), cf_none (c := c) (by omega), if_neg (by omega), cf_none (c := b) (by omega), ml_zero]; rfl

structure BJ (w : List Bool) (n : Nat) (x : BS) : Prop where
  bm : BM (tS w) (n + 1) (cf x.1) (cf x.2.1) x.2.2.1.toNat (n - x.2.2.2.1.toNat) (toE x.2.2.2.2)
  g0 : 0 ≤ x.2.2.2.1
  g1 : x.2.2.2.1 ≤ n
  s0 : 0 ≤ x.2.2.1
  s1 : x.2.2.1 ≤ n
  few : x.2.2.1.toNat ≤ cn 127 (bw w)

theorem BJ.init (w : List Bool) : BJ w 0 ([1], [1], 0, 0, 1) where
  bm := {
    c0 := rfl
    cdeg := fun i hi => cf_none (c := [1]) hi
    cgen := fun k h1 h2 => by
      have : (0 : Int).toNat = 0 := rfl
      simp only at h1
      omega
    LM := Nat.le_refl 0
    MN := Nat.lt_succ_self 0
    bdeg := fun i hi => cf_none (c := [1]) hi
    bgen := fun k h1 h2 => absurd h2 (Nat.not_lt_zero k)
    bdis := by
      show (0 : E) ^^^ ml 1 1 = 1
      rw [ml_one, zx]
    ln := by decide }
  g0 := by decide
  g1 := by decide
  s0 := by decide
  s1 := by decide
  few := Nat.zero_le _

theorem synL_rng (w : List Bool) : ∀ x ∈ synL w, 0 ≤ x ∧ x < 128 := fun x hx => by
  have hx : x ∈ (List.range 20).map fun j => ofE (sy (bw w) (j + 1)) := hx
  obtain ⟨j, hj, rfl⟩ := List.mem_map.1 hx
  exact ofE_fit _

theorem BJ.step {w : List Bool} {n : Nat} {x : BS} (h : BJ w n x) (hn : n < 20) : BJ w (n + 1) (stepI (synL w) x n) := by
  obtain ⟨bm, g0, g1, s0, s1, few⟩ := h
  obtain ⟨c, b, size, gap, last⟩ := x
  simp only at bm g0 g1 s0 s1 few
  have hdr := disc_rng (synL_rng w) c n (min size.toNat (c.length - 1))
  have hdd : discTo c (synL w) n (min size.toNat (c.length - 1)) = discF c (synL w) size.toNat n := rfl
  rw [hdd] at hdr
  have hd := disc_cv (w := w) hn bm.c0 bm.cdeg (show size.toNat ≤ n by omega)
  have st : stepI (synL w) (c, b, size, gap, last) n = if discF c (synL w) size.toNat n = 0 then (c, b, size, gap + 1, last)
    else if 2 * size ≤ (n : Int) then (growI c b (gap + 1).toNat (mlI (discF c (synL w) size.toNat n) (invI last)), c, (n : Int) + 1 - size, 0, discF c (synL w) size.toNat n)
    else (growI c b (gap + 1).toNat (mlI (discF c (synL w) size.toNat n) (invI last)), b, size, gap + 1, last) := rfl
  rw [st]
  clear st hdd
  generalize discF c (synL w) size.toNat n = d at *
  have ha : ml (toE (mlI d (invI last))) (toE last) = cv (cf c) (tS w) (n + 1) := by
    unfold mlI
    rw [toE_ofE, ml_assoc, inv_ml bm.ln, ml_comm, ml_one, hd]
  have hg := growI_cf c b (gap + 1).toNat (mlI d (invI last))
  generalize mlI d (invI last) = a at *
  have eg : (gap + 1).toNat = n + 1 - (n - gap.toNat) := by omega
  by_cases d0 : d = 0
  · rw [if_pos d0]
    have hz : cv (cf c) (tS w) (n + 1) = 0 := by rw [← hd, d0]; rfl
    have em : n + 1 - (gap + 1).toNat = n - gap.toNat := by omega
    refine ⟨?_, by simp only; omega, by simp only; omega, s0, by simp only; omega, few⟩
    simp only
    rw [em]
    exact bm.same hz
  · rw [if_neg d0]
    have hnz : cv (cf c) (tS w) (n + 1) ≠ 0 := by
      intro e
      rw [e] at hd
      exact d0 (by rw [← ofE_toE hdr, hd]; rfl)
    by_cases h2 : 2 * size ≤ (n : Int)
    · rw [if_pos h2]
      have hb := bm.grow ha hnz (by omega)
      have hf := few_len bm.cdeg bm.cgen (by omega) hnz
      have es : ((n : Int) + 1 - size).toNat = n + 1 - size.toNat := by omega
      refine ⟨?_, by simp only; omega, by simp only; omega, by simp only; omega, by simp only; omega, ?_⟩
      · simp only
        rw [hg, es, hd, eg]
        exact hb
      · simp only
        rw [es]; exact hf
    · rw [if_neg h2]
      have hb := bm.keep ha (by omega)
      have em : n + 1 - (gap + 1).toNat = n - gap.toNat := by omega
      refine ⟨?_, by simp only; omega, by simp only; omega, s0, by simp only; omega, few⟩
      simp only
      rw [em, hg, eg]
      exact hb
theorem bm_few (w : List Bool) (n : Nat) : n ≤ 20 → BJ w n (bmTo (synL w) n) := by
  induction n with
  | zero => intro _; exact BJ.init w
  | succ n ih => intro hn; exact (ih (by omega)).step (by omega)

/-! ### Roots -/
theorem toE_xp {k : Nat} (hk : k < 127) : toE (xpI (0 - (k : Int))) = ex (pt k) := by
  unfold xpI
  rw [toE_ofE]
  unfold pt
  congr 1
  omega
theorem evI_ev : ∀ (c : List Int) (x : Int), toE (evI c x) = evl (c.map toE) (toE x)
  | [], _ => rfl
  | a :: p, x => by
    show toE (ofE (ml (toE (evI p x)) (toE x) ^^^ toE a)) = toE a ^^^ ml (toE x) (evl (p.map toE) (toE x))
    rw [toE_ofE, evI_ev p x, ml_comm, BitVec.xor_comm]
theorem evI_zero (c : List Int) (x : Int) : evI c x = 0 ↔ toE (evI c x) = 0 :=
  ⟨fun h => by rw [h]; rfl, fun h => by rw [← ofE_toE (evI_fit c x), h]; rfl⟩
theorem evl_cf (c : List Int) (m : Nat) : evl (c.map toE) (ex m) = xs c.length fun j => ml (cf c j) (ex (m * j)) := by
  rw [evl_xs, List.length_map]
  exact xs_congr fun j hj => by rw [map_toE_getD hj]; rfl
theorem xs_both {f : Nat → E} {n m : Nat} (h1 : ∀ i, n ≤ i → f i = 0) (h2 : ∀ i, m ≤ i → f i = 0) : xs n f = xs m f := by
  rcases Nat.le_total n m with h | h
  · exact (xs_more h fun i a _ => h1 i a).symm
  · exact xs_more h fun i a _ => h2 i a
theorem root_few {w : List Bool} (hc : cn 127 (bw w) ≤ 10) {k : Nat} (hk : k < 127) : rootB (locC (synL w)) k = bw w k := by
  have h := bm_few w 20 (Nat.le_refl _)
  have hb := h.bm
  have hf := h.few
  have ec : (bmTo (synL w) 20).1 = locC (synL w) := rfl
  rw [ec] at hb
  generalize locC (synL w) = c at *
  generalize (bmTo (synL w) 20).2.2.1.toNat = L at *
  have hr := few_roots hb.c0 hb.cdeg hb.cgen (by omega) hf hk
  have e : evI c (xpI (0 - (k : Int))) = 0 ↔ bw w k = true := by
    rw [evI_zero, evI_ev, toE_xp hk, evl_cf, ← hr, xs_both (m := L + 1) (fun i hi => by rw [cf_none hi, zero_ml]) (fun i hi => by rw [hb.cdeg i hi, zero_ml])]
  unfold rootB
  rw [Bool.eq_iff_iff, decide_eq_true_iff]
  exact e

/-- Places. -/
def plc (p : Nat → Bool) (n : Nat) : List Int := ((List.range n).filter p).map fun k : Nat => (k : Int)
theorem plc_len (p : Nat → Bool) (n : Nat) : (plc p n).length = cn n p := by unfold plc; rw [List.length_map, cn_filter]
theorem plc_step (p : Nat → Bool) (n : Nat) : plc p (n + 1) = if p n = true then plc p n ++ [(n : Int)] else plc p n := by
  unfold plc
  rw [List.range_succ, List.filter_append, List.map_append]
  cases h : p n <;> simp [h]
theorem right_syn (w : List Bool) : rightS (synL w) = true := by
  unfold rightS
  rw [synL_len, Bool.and_eq_true]
  refine ⟨by decide, ?_⟩
  rw [Bool.not_eq_true', List.any_eq_false]
  intro x hx
  have := synL_rng w x hx
  unfold badS
  rw [decide_eq_false (by omega), decide_eq_false (by omega)]
  simp
theorem locL_congr {c : List Int} {p : Nat → Bool} {n : Nat} (h : ∀ k, k < n → rootB c k = p k) : locL c n = plc p n := by
  unfold locL plc
  rw [List.filter_congr fun k hk => h k (List.mem_range.1 hk)]
/-- Few places are found. -/
theorem loc_few {w : List Bool} (hl : w.length = 127) (hc : cn 127 (bw w) ≤ 10) : locB (synL w) = true ∧ locF (synL w) = plc (bw w) 127 := by
  have hr : ∀ k, k < 127 → rootB (locC (synL w)) k = bw w k := fun k hk => root_few hc hk
  have hL : locL (locC (synL w)) 127 = plc (bw w) 127 := locL_congr hr
  have hW : locW (locC (synL w)) 127 = w := bw_ext (locW_len _ _) hl fun k hk => by
    unfold bw
    rw [List.getD_eq_getElem?_getD, locW_at _ _ hk, decide_eq_true hk, Bool.true_and, hr k hk]; rfl
  have hB : locB (synL w) = true := by
    unfold locB
    have h1 : decide (synL w = synL w) = true := decide_eq_true rfl
    have h2 : decide (10 < (cn 127 (bw w) : Int)) = false := decide_eq_false (by omega)
    rw [right_syn, hL, hW, plc_len, h1, h2]; rfl
  refine ⟨hB, ?_⟩
  unfold locF
  rw [hB, if_pos rfl, hL]
end Go.SL.A

/- Near codewords are found: plain facts. -/
namespace Go.SL.A
open Go Go.SL Go.SL.S
set_option maxRecDepth 100000

/-! ### How far -/
theorem far_cn (w h c : List Bool) (n : Nat) : farTo6 w h c n = 2 * (cn n (fun i => !bw h i && (bw w i != bw c i)) : Int) + (cn n (bw h) : Int) := by
  induction n with
  | zero => rfl
  | succ n ih =>
    show farTo6 w h c n + (if bw h n = true then 1 else if bw w n = bw c n then 0 else 2) = 2 * ((cn n (fun i => !bw h i && (bw w i != bw c i)) + (if (!bw h n && (bw w n != bw c n)) = true then 1 else 0) : Nat) : Int) + ((cn n (bw h) + (if bw h n = true then 1 else 0) : Nat) : Int)
    rw [ih]
    generalize cn n (fun i => !bw h i && (bw w i != bw c i)) = a
    generalize cn n (bw h) = b
    cases bw h n <;> cases bw w n <;> cases bw c n <;> simp <;> omega
theorem w127_bw {i : Nat} (hi : i < 127) : bw w127 i = false := rep_bw false hi
theorem rep7_bw (b : Bool) {i : Nat} (hi : i < 127) : bw (rep7 b) i = b := rep_bw b hi
theorem dist_holes (h : List Bool) : distB h w127 = (cn 127 (bw h) : Int) := by
  unfold distB neqN
  rw [cn_congr (q := bw h) fun i hi => by rw [w127_bw hi]; cases bw h i <;> rfl]
theorem dist_fill (w h c : List Bool) : distB (fillB w h c) c = (cn 127 (fun i => !bw h i && (bw w i != bw c i)) : Int) := by
  unfold distB neqN
  rw [cn_congr (q := fun i => !bw h i && (bw w i != bw c i)) fun i hi => by
    show (bw (fillB w h c) i != bw c i) = (!bw h i && (bw w i != bw c i))
    rw [fillB_bw w h c hi]
    cases bw h i <;> cases bw w i <;> cases bw c i <;> rfl]
theorem near_far (w h c : List Bool) : nearB w h c = (isB c && decide (far6 w h c ≤ 20)) := by
  unfold nearB far6
  rw [dist_holes, dist_fill, far_cn]
theorem near_enc (w h : List Bool) (x : Int) : nearB w h (encF x) = decide (far6 w h (encF x) ≤ 20) := by
  rw [near_far, (isB_cw _).2 (enc_cw x), Bool.true_and]

theorem near_uniq {w h a b : List Bool} (la : a.length = 127) (lb : b.length = 127) (ha : nearB w h a = true) (hb : nearB w h b = true) : a = b := by
  rw [near_far, Bool.and_eq_true, decide_eq_true_eq] at ha hb
  obtain ⟨ca, fa⟩ := ha
  obtain ⟨cb, fb⟩ := hb
  unfold far6 at fa fb
  rw [far_cn] at fa fb
  have h1 := cn_sub (fun i => !bw h i && (bw w i != bw b i)) (bw h) (fun i => (!bw h i && (bw w i != bw b i)) || bw h i) (n := 127) fun i hi hr => by
    have hr : ((!bw h i && (bw w i != bw b i)) || bw h i) = true := hr
    rwa [Bool.or_eq_true] at hr
  have h2 := cn_sub (fun i => !bw h i && (bw w i != bw a i)) (fun i => (!bw h i && (bw w i != bw b i)) || bw h i) (fun i => bw a i != bw b i) (n := 127) fun i hi hr => by
    have hr : (bw a i != bw b i) = true := hr
    show (!bw h i && (bw w i != bw a i)) = true ∨ ((!bw h i && (bw w i != bw b i)) || bw h i) = true
    revert hr
    cases bw h i <;> cases bw w i <;> cases bw a i <;> cases bw b i <;> simp
  exact bw_ext la lb (cw_far ((isB_cw _).1 ca) ((isB_cw _).1 cb) (by omega))

/-! ### Flips -/
theorem flip_snoc (c : List Bool) (l : List Int) (x : Int) : flipF c (l ++ [x]) = (flipF c l).set x.toNat (!(bw (flipF c l) x.toNat)) := by
  unfold flipF; rw [List.foldl_append]; rfl
theorem set_bw (w : List Bool) (i k : Nat) (b : Bool) (hl : w.length = 127) (hi : i < 127) : bw (w.set i b) k = if i = k then b else bw w k := by
  unfold bw
  rw [List.getD_eq_getElem?_getD, List.getElem?_set]
  by_cases e : i = k
  · rw [if_pos e, if_pos (by omega), if_pos e]; rfl
  · rw [if_neg e, if_neg e, ← List.getD_eq_getElem?_getD]
theorem flip_plc (c : List Bool) (hl : c.length = 127) (p : Nat → Bool) (n : Nat) : n ≤ 127 → (flipF c (plc p n)).length = 127 ∧ ∀ k, bw (flipF c (plc p n)) k = if k < n ∧ p k = true then !bw c k else bw c k := by
  induction n with
  | zero => intro _; exact ⟨hl, fun k => by rw [if_neg (by omega)]; rfl⟩
  | succ n ih =>
    intro hn
    obtain ⟨il, ih⟩ := ih (by omega)
    rw [plc_step]
    cases hp : p n with
    | false =>
      rw [if_neg (by simp)]
      refine ⟨il, fun k => ?_⟩
      rw [ih k]
      by_cases h : k < n ∧ p k = true
      · rw [if_pos h, if_pos ⟨by omega, h.2⟩]
      · rw [if_neg h, if_neg]
        rintro ⟨h1, h2⟩
        by_cases e : k = n
        · rw [e, hp] at h2; cases h2
        · exact h ⟨by omega, h2⟩
    | true =>
      rw [if_pos rfl, flip_snoc, Int.toNat_natCast]
      refine ⟨by rw [List.length_set]; exact il, fun k => ?_⟩
      rw [set_bw _ _ _ _ il (by omega)]
      by_cases e : n = k
      · subst e
        rw [if_pos rfl, if_pos ⟨by omega, hp⟩, ih n, if_neg (by omega)]
      · rw [if_neg e, ih k]
        by_cases h : k < n ∧ p k = true
        · rw [if_pos h, if_pos ⟨by omega, h.2⟩]
        · rw [if_neg h, if_neg]
          rintro ⟨h1, h2⟩
          exact h ⟨by omega, h2⟩

theorem locL_plc (c : List Int) (n : Nat) : locL c n = plc (rootB c) n := rfl
theorem locF_cases (s : List Int) : locF s = [] ∨ locF s = plc (rootB (locC s)) 127 := by
  unfold locF
  cases locB s with
  | false => left; rfl
  | true => right; rfl
theorem tryW_len (w h : List Bool) (b : Bool) : (tryW w h b).length = 127 := by
  unfold tryW
  rcases locF_cases (synL (fillB w h (rep7 b))) with e | e
  · rw [e]; exact fillB_len _ _ _
  · rw [e]; exact (flip_plc _ (fillB_len _ _ _) _ 127 (Nat.le_refl _)).1

/-! ### A try -/
def difB (a b : List Bool) : List Bool := (List.range 127).map fun i => bw a i != bw b i
theorem difB_len (a b : List Bool) : (difB a b).length = 127 := by simp [difB]
theorem difB_bw (a b : List Bool) {i : Nat} (hi : i < 127) : bw (difB a b) i = (bw a i != bw b i) := by
  unfold difB
  show ((List.range 127).map fun i => bw a i != bw b i).getD i false = _
  rw [List.getD_eq_getElem?_getD, List.getElem?_map, List.getElem?_range hi]; rfl
theorem synL_dif {f c : List Bool} (hc : cw (bw c)) : synL f = synL (difB f c) := by
  show (List.range 20).map (fun j => ofE (sy (bw f) (j + 1))) = (List.range 20).map fun j => ofE (sy (bw (difB f c)) (j + 1))
  refine List.map_congr_left fun j hj => ?_
  rw [sy_congr (fun i hi => difB_bw f c hi), sy_xor, hc j (List.mem_range.1 hj), xz]
theorem try_few {w h c : List Bool} (lc : c.length = 127) (hn : nearB w h c = true) (b : Bool) (hf : cn 127 (fun i => bw (fillB w h (rep7 b)) i != bw c i) ≤ 10) : tryB w h b = true ∧ tryW w h b = c := by
  have hcw : cw (bw c) := by
    rw [near_far, Bool.and_eq_true] at hn
    exact (isB_cw _).1 hn.1
  have hW : tryW w h b = c := by
    unfold tryW
    rw [synL_dif hcw, (loc_few (difB_len _ _) (by rw [cn_congr fun i hi => difB_bw _ _ hi]; exact hf)).2]
    obtain ⟨h1, h2⟩ := flip_plc (fillB w h (rep7 b)) (fillB_len _ _ _) (bw (difB (fillB w h (rep7 b)) c)) 127 (Nat.le_refl _)
    refine bw_ext h1 lc fun i hi => ?_
    rw [h2 i, difB_bw _ _ hi]
    generalize bw (fillB w h (rep7 b)) i = x
    cases x <;> cases bw c i <;> simp [hi]
  refine ⟨?_, hW⟩
  unfold tryB
  rw [hW, hn, synL_dif hcw, (loc_few (difB_len _ _) (by rw [cn_congr fun i hi => difB_bw _ _ hi]; exact hf)).1]; rfl
theorem try_near {w h : List Bool} {b : Bool} (ht : tryB w h b = true) : nearB w h (tryW w h b) = true := by
  unfold tryB at ht
  rw [Bool.and_eq_true] at ht
  exact ht.2

theorem cn_two (p q r s : Nat → Bool) (n : Nat) (h : ∀ i, i < n → (if p i = true then 1 else 0) + (if q i = true then 1 else 0) = 2 * (if r i = true then 1 else 0) + (if s i = true then 1 else 0)) : cn n p + cn n q = 2 * cn n r + cn n s := by
  induction n with
  | zero => rfl
  | succ n ih =>
    have h1 := ih fun i hi => h i (by omega)
    have h2 := h n (by omega)
    rw [cn, cn, cn, cn]
    omega

/-- What is near is answered. -/
theorem am_near {w h c : List Bool} (lc : c.length = 127) (hn : nearB w h c = true) : amI w h = infI c ∧ amE w h = 0 := by
  have hfar := hn
  rw [near_far, Bool.and_eq_true, decide_eq_true_eq] at hfar
  have hfar := hfar.2
  unfold far6 at hfar
  rw [far_cn] at hfar
  have h2 := cn_two (fun i => bw (fillB w h (rep7 false)) i != bw c i) (fun i => bw (fillB w h (rep7 true)) i != bw c i) (fun i => !bw h i && (bw w i != bw c i)) (bw h) 127 fun i hi => by
    rw [fillB_bw _ _ _ hi, fillB_bw _ _ _ hi, rep7_bw _ hi, rep7_bw _ hi]
    cases bw h i <;> cases bw w i <;> cases bw c i <;> rfl
  unfold amI amE
  cases h0 : tryB w h false with
  | true =>
    rw [if_pos rfl, if_pos rfl, near_uniq (tryW_len w h false) lc (try_near h0) hn]
    exact ⟨rfl, rfl⟩
  | false =>
    have h1 : tryB w h true = true ∧ tryW w h true = c := try_few lc hn true (by
      by_cases e : cn 127 (fun i => bw (fillB w h (rep7 false)) i != bw c i) ≤ 10
      · have := (try_few lc hn false e).1
        rw [h0] at this; cases this
      · omega)
    rw [h1.1, h1.2]
    exact ⟨rfl, rfl⟩
/-- What is answered is near; or nothing is. -/
theorem am_cases (w h : List Bool) : (∃ c, c.length = 127 ∧ nearB w h c = true ∧ amI w h = infI c ∧ amE w h = 0) ∨ (amI w h = 0 ∧ amE w h = 5 ∧ ∀ c, c.length = 127 → nearB w h c = false) := by
  cases h0 : tryB w h false with
  | true => exact .inl ⟨_, tryW_len w h false, try_near h0, am_near (tryW_len w h false) (try_near h0)⟩
  | false =>
    cases h1 : tryB w h true with
    | true => exact .inl ⟨_, tryW_len w h true, try_near h1, am_near (tryW_len w h true) (try_near h1)⟩
    | false =>
      refine .inr ⟨?_, ?_, fun c lc => ?_⟩
      · unfold amI; rw [h0, h1]; rfl
      · unfold amE; rw [h0, h1]; rfl
      · cases hn : nearB w h c with
        | false => rfl
        | true =>
          have := (am_near lc hn).2
          unfold amE at this
          rw [h0, h1] at this
          exact absurd this (by decide)
theorem near_cw {w h c : List Bool} (hn : nearB w h c = true) : cw (bw c) := by
  rw [near_far, Bool.and_eq_true] at hn
  exact (isB_cw _).1 hn.1
theorem am_enc {w h : List Bool} {x : Int} (hx : 0 ≤ x ∧ x ≤ 18446744073709551615) (hf : far6 w h (encF x) ≤ 20) : amI w h = x ∧ amE w h = 0 := by
  have := am_near (enc_len x) (by rw [near_enc]; exact decide_eq_true hf)
  rw [info_enc hx] at this
  exact this
theorem am_ok {w h : List Bool} (he : amE w h = 0) : (0 ≤ amI w h ∧ amI w h ≤ 18446744073709551615) ∧ nearB w h (encF (amI w h)) = true ∧ far6 w h (encF (amI w h)) ≤ 20 := by
  rcases am_cases w h with ⟨c, lc, hn, e1, e2⟩ | ⟨e1, e2, -⟩
  · have hi := enc_info lc (near_cw hn)
    rw [e1, hi]
    refine ⟨info_fit c, hn, ?_⟩
    rw [near_far, Bool.and_eq_true, decide_eq_true_eq] at hn
    exact hn.2
  · rw [e2] at he; exact absurd he (by decide)
theorem am_bad {w h : List Bool} (he : amE w h ≠ 0) : amI w h = 0 ∧ amE w h = 5 := by
  rcases am_cases w h with ⟨c, lc, hn, e1, e2⟩ | ⟨e1, e2, -⟩
  · exact absurd e2 he
  · exact ⟨e1, e2⟩
theorem am_same {w v h : List Bool} (hs : ∀ i, i < 127 → bw h i = false → bw v i = bw w i) : amI v h = amI w h ∧ amE v h = amE w h := by
  have hf : ∀ c, fillB v h c = fillB w h c := fun c => bw_ext (fillB_len _ _ _) (fillB_len _ _ _) fun i hi => by
    rw [fillB_bw _ _ _ hi, fillB_bw _ _ _ hi]
    cases hb : bw h i with
    | true => rfl
    | false => exact hs i hi hb
  have hn : ∀ c, nearB v h c = nearB w h c := fun c => by unfold nearB; rw [hf c]
  have hW : ∀ b, tryW v h b = tryW w h b := fun b => by unfold tryW; rw [hf]
  have hB : ∀ b, tryB v h b = tryB w h b := fun b => by unfold tryB; rw [hf, hW, hn]
  unfold amI amE
  rw [hB, hB, hW, hW]
  exact ⟨rfl, rfl⟩
end Go.SL.A
