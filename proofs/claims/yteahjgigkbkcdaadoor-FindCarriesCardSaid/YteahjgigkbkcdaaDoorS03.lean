/- Part 3 of what the statements of this seat need: a logic of states for the code of the model, the functions that they reach, and what these are held to do: no condition. -/
import GoSem.ClaimJoined
import Derived.ProofKit
import Derived.KernelRfl
import Derived.JoinedOf
import Derived.Test.YteahjgigkbkcdaaDoorS02

/- Errors' polynomials (Berlekamp and Massey); roots. Plain mathematics. -/
namespace Go.SL.S

/-! ### Polynomials -/
def evl : List E → E → E
  | [], _ => 0
  | a :: p, x => a ^^^ ml x (evl p x)
theorem xz (a : E) : a ^^^ (0 : E) = a := BitVec.xor_zero
theorem zx (a : E) : (0 : E) ^^^ a = a := BitVec.zero_xor
theorem evl_cons (a : E) (p : List E) (x : E) : evl (a :: p) x = a ^^^ ml x (evl p x) := rfl
def syn (r : E) : List E → List E
  | [] => []
  | b :: p => evl (b :: p) r :: syn r p
theorem syn_len (r : E) : ∀ p, (syn r p).length = p.length
  | [] => rfl
  | b :: p => by rw [syn, List.length_cons, List.length_cons, syn_len r p]
theorem syn_ev (r x : E) : ∀ (p : List E) (a : E), evl (a :: p) x ^^^ evl (a :: p) r = ml (x ^^^ r) (evl (syn r p) x)
  | [], a => by simp only [evl, syn, ml_zero, BitVec.xor_zero, BitVec.xor_self]; rfl
  | b :: p, a => by
    have ih := syn_ev r x p b
    rw [evl_cons a, evl_cons a, syn, evl_cons (evl (b :: p) r)]
    generalize evl (b :: p) x = X at *
    generalize evl (b :: p) r = R at *
    generalize evl (syn r p) x = Q at *
    rw [ml_xor, ml_left (x ^^^ r), ← ih, ml_xor, xor_ml]
    simp only [BitVec.xor_assoc]
    rw [xor_lc _ a, xor_sl, xor_lc (ml x R) (ml r R), xor_lc (ml x R) (ml x X), BitVec.xor_self, BitVec.xor_zero, BitVec.xor_comm]
theorem syn_zero (r : E) : ∀ p, (∀ a ∈ syn r p, a = 0) → ∀ a ∈ p, a = 0
  | [], _ => by simp
  | b :: p, h => by
    have ht := syn_zero r p fun a ha => h a (by rw [syn]; exact List.mem_cons_of_mem _ ha)
    have hh := h (evl (b :: p) r) (by rw [syn]; exact List.mem_cons_self)
    have h0 : ∀ (q : List E), (∀ a ∈ q, a = 0) → ∀ x, evl q x = 0 := by
      intro q
      induction q with
      | nil => intros; rfl
      | cons a q ih => intro hq x; rw [evl, hq a List.mem_cons_self, ih (fun a ha => hq a (List.mem_cons_of_mem _ ha)), ml_zero]; rfl
    rw [evl, h0 p ht, ml_zero, xz] at hh
    intro a ha
    rcases List.mem_cons.1 ha with rfl | ha
    · exact hh
    · exact ht a ha
theorem evl_zero : ∀ (q : List E), (∀ a ∈ q, a = 0) → ∀ x, evl q x = 0
  | [], _, _ => rfl
  | a :: q, h, x => by rw [evl, h a List.mem_cons_self, evl_zero q (fun a ha => h a (List.mem_cons_of_mem _ ha)), ml_zero]; rfl
theorem roots_le : ∀ (l : List E) (p : List E), l.Nodup → p.length ≤ l.length → (∀ x ∈ l, evl p x = 0) → ∀ a ∈ p, a = 0
  | [], p, _, hl, _ => by
    have : p = [] := List.length_eq_zero_iff.1 (by simpa using hl)
    subst this; simp
  | r :: l, [], _, _, _ => by simp
  | r :: l, a :: p, hn, hl, h => by
    obtain ⟨hr, hn⟩ := List.nodup_cons.1 hn
    have h1 := h r List.mem_cons_self
    have ih := roots_le l (syn r p) hn (by rw [syn_len]; simpa using hl) (fun x hx => by
      have e := syn_ev r x p a
      rw [h1, h x (List.mem_cons_of_mem _ hx), BitVec.xor_self] at e
      rcases ml_eq_zero e.symm with e | e
      · rw [xor_zero_iff.1 e] at hx; exact absurd hx hr
      · exact e)
    have hp := syn_zero r p ih
    rw [evl, evl_zero p hp, ml_zero, xz] at h1
    intro b hb
    rcases List.mem_cons.1 hb with rfl | hb
    · exact h1
    · exact hp b hb

theorem xs_head (f : Nat → E) : ∀ n, xs (n + 1) f = f 0 ^^^ xs n (fun i => f (i + 1))
  | 0 => by simp [xs]
  | n + 1 => by rw [xs, xs_head f n, xs, BitVec.xor_assoc]
theorem evl_xs (m : Nat) : ∀ p : List E, evl p (ex m) = xs p.length (fun j => ml (p.getD j 0) (ex (m * j)))
  | [] => rfl
  | a :: p => by
    rw [evl, evl_xs m p, List.length_cons, xs_head, xs_ml]
    congr 1
    · show a = ml a (ex 0)
      rw [ml_comm]; exact (ml_one a).symm
    · refine xs_congr fun j _ => ?_
      rw [ml_left, ml_exex, List.getD_cons_succ, Nat.mul_succ, Nat.add_comm]

/-! ### Convolutions -/
def cv (c t : Nat → E) (k : Nat) : E := xs (k + 1) fun i => ml (c i) (t (k - i))
theorem cv_xor (c b t : Nat → E) (k : Nat) : cv (fun i => c i ^^^ b i) t k = cv c t k ^^^ cv b t k := by
  unfold cv; rw [← xs_xor]; exact xs_congr fun i _ => xor_ml _ _ _
theorem cv_ml (a : E) (b t : Nat → E) (k : Nat) : cv (fun i => ml a (b i)) t k = ml a (cv b t k) := by
  unfold cv; rw [xs_ml]; exact xs_congr fun i _ => ml_assoc _ _ _
theorem xs_shift (f : Nat → E) (g : Nat) : ∀ n, (∀ i, i < g → f i = 0) → xs (n + g) f = xs n (fun i => f (i + g))
  | 0, h => by rw [Nat.zero_add]; exact xs_zero h
  | n + 1, h => by rw [Nat.add_right_comm, xs, xs_shift f g n h, xs]
theorem cv_shift (b t : Nat → E) (g k : Nat) : cv (fun i => if i < g then 0 else b (i - g)) t k = if k < g then 0 else cv b t (k - g) := by
  unfold cv
  split
  · exact xs_zero fun i hi => by simp only [if_pos (show i < g by omega), zero_ml]
  · rw [show k + 1 = k - g + 1 + g by omega, xs_shift _ g _ fun i hi => by simp only [if_pos hi, zero_ml]]
    refine xs_congr fun i hi => ?_
    simp only [if_neg (show ¬ i + g < g by omega), show i + g - g = i by omega]
    rw [show k - (i + g) = k - g - i by omega]

/-- The search's state, ahead of what stands at N. -/
structure BM (t : Nat → E) (N : Nat) (c b : Nat → E) (L M : Nat) (last : E) : Prop where
  c0 : c 0 = 1
  cdeg : ∀ i, L < i → c i = 0
  cgen : ∀ k, L < k → k < N → cv c t k = 0
  LM : L ≤ M
  MN : M < N
  bdeg : ∀ i, M - L < i → b i = 0
  bgen : ∀ k, M - L < k → k < M → cv b t k = 0
  bdis : cv b t M = last
  ln : last ≠ 0

def grow (c b : Nat → E) (g : Nat) (a : E) : Nat → E := fun i => c i ^^^ (if i < g then 0 else ml a (b (i - g)))
theorem cv_grow (c b t : Nat → E) (g : Nat) (a : E) (k : Nat) : cv (grow c b g a) t k = cv c t k ^^^ (if k < g then 0 else ml a (cv b t (k - g))) := by
  unfold grow
  have := cv_shift (fun i => ml a (b i)) t g k
  rw [cv_ml] at this
  rw [cv_xor, this]

theorem BM.same {t : Nat → E} {N : Nat} {c b : Nat → E} {L M : Nat} {last : E} (h : BM t N c b L M last) (hd : cv c t N = 0) : BM t (N + 1) c b L M last :=
  { h with
    cgen := fun k h1 h2 => by
      by_cases e : k = N
      · rw [e]; exact hd
      · exact h.cgen k h1 (by omega)
    MN := by have := h.MN; omega }

theorem BM.gen {t : Nat → E} {N : Nat} {c b : Nat → E} {L M : Nat} {last a : E} (h : BM t N c b L M last) (ha : ml a last = cv c t N) (k : Nat) (hL : L < k) (hk : k ≤ N) (hm : M - L < k - (N - M)) : cv (grow c b (N - M) a) t k = 0 := by
  have hM := h.MN
  rw [cv_grow, if_neg (by omega)]
  by_cases e : k = N
  · subst e
    rw [show k - (k - M) = M by omega, h.bdis, ha, BitVec.xor_self]; rfl
  · rw [h.cgen k hL (by omega), h.bgen _ hm (by omega), ml_zero]; rfl

theorem BM.grow {t : Nat → E} {N : Nat} {c b : Nat → E} {L M : Nat} {last a : E} (h : BM t N c b L M last) (ha : ml a last = cv c t N) (hd : cv c t N ≠ 0) (h2 : 2 * L + 1 ≤ N) : BM t (N + 1) (grow c b (N - M) a) c (N - L) N (cv c t N) where
  c0 := by have := h.MN; unfold S.grow; rw [if_pos (by omega), h.c0]; rfl
  cdeg := fun i hi => by
    have := h.LM; have := h.MN
    unfold S.grow
    rw [h.cdeg i (by omega)]
    split
    · rfl
    · rw [h.bdeg _ (by omega), ml_zero]; rfl
  cgen := fun k h1 h3 => by have := h.LM; have := h.MN; exact h.gen ha k (by omega) (by omega) (by omega)
  LM := by omega
  MN := by omega
  bdeg := fun i hi => h.cdeg i (by omega)
  bgen := fun k h1 h3 => h.cgen k (by omega) h3
  bdis := rfl
  ln := hd

theorem BM.keep {t : Nat → E} {N : Nat} {c b : Nat → E} {L M : Nat} {last a : E} (h : BM t N c b L M last) (ha : ml a last = cv c t N) (h2 : N < 2 * L + 1) : BM t (N + 1) (S.grow c b (N - M) a) b L M last :=
  { h with
    c0 := by have := h.MN; unfold S.grow; rw [if_pos (by omega), h.c0]; rfl
    cdeg := fun i hi => by
      have := h.LM; have := h.MN
      unfold S.grow
      rw [h.cdeg i hi]
      split
      · rfl
      · rw [h.bdeg _ (by omega), ml_zero]; rfl
    cgen := fun k h1 h3 => by have := h.LM; have := h.MN; exact h.gen ha k (by omega) (by omega) (by omega)
    MN := by have := h.MN; omega }

/-! ### Few errors -/
/-- A word at a power. -/
def sy (w : Nat → Bool) (k : Nat) : E := xs 127 fun i => if w i then ex (i * k) else 0
def one0 (s : Nat → E) (k : Nat) : E := if k = 0 then 1 else s k
def zz (c : Nat → E) (L i : Nat) : E := xs (L + 1) fun j => ml (c j) (ex (i * (L - j)))

theorem cv_sy {w : Nat → Bool} {c : Nat → E} {L : Nat} (hc : ∀ i, L < i → c i = 0) (k : Nat) : cv c (one0 (sy w)) (L + 1 + k) = xs 127 fun i => ml (if w i then ml (zz c L i) (ex i) else 0) (ex (i * k)) := by
  unfold cv
  rw [xs_more (n := L + 1) (by omega) fun i h1 _ => by rw [hc i (by omega), zero_ml]]
  have e1 : xs (L + 1) (fun j => ml (c j) (one0 (sy w) (L + 1 + k - j))) = xs (L + 1) fun j => xs 127 fun i => ml (c j) (if w i then ex (i * (L + 1 + k - j)) else 0) := xs_congr fun j hj => by
    unfold one0
    rw [if_neg (by omega), sy, xs_ml]
  rw [e1, xs_swap]
  refine xs_congr fun i _ => ?_
  cases w i with
  | false => simp only [Bool.false_eq_true, if_false, zero_ml, ml_zero]; exact xs_zero fun _ _ => rfl
  | true =>
    simp only [if_true]
    unfold zz
    rw [ml_assoc, ml_exex, ml_comm, xs_ml]
    refine xs_congr fun j hj => ?_
    rw [ml_left, ml_exex]
    congr 2
    rw [show L + 1 + k - j = 1 + k + (L - j) by omega, Nat.mul_add, Nat.mul_add, Nat.mul_one]

theorem few_zz {w : Nat → Bool} {c : Nat → E} {L N : Nat} (hc : ∀ i, L < i → c i = 0) (hg : ∀ k, L < k → k < N → cv c (one0 (sy w)) k = 0) (hn : cn 127 w + L + 1 ≤ N) : ∀ i, i < 127 → w i = true → zz c L i = 0 := by
  intro i hi hw
  have := vander 127 (Nat.le_refl _) (cn 127 w) (fun i => if w i then ml (zz c L i) (ex i) else 0) (cn_le fun j _ hj => by
    cases hwj : w j with
    | true => rfl
    | false => rw [hwj] at hj; simp at hj) (fun k hk => by rw [← cv_sy hc]; exact hg _ (by omega) (by omega)) i hi
  simp only [hw, if_true] at this
  rcases ml_eq_zero this with h | h
  · exact h
  · exact absurd h (ex_ne _)

/-- The search's length is never more than how many errors there are. -/
theorem few_len {w : Nat → Bool} {c : Nat → E} {L N : Nat} (hc : ∀ i, L < i → c i = 0) (hg : ∀ k, L < k → k < N → cv c (one0 (sy w)) k = 0) (hL : L < N) (hd : cv c (one0 (sy w)) N ≠ 0) : N - L ≤ cn 127 w := by
  by_cases hn : cn 127 w + L + 1 ≤ N
  · refine absurd ?_ hd
    have hz := few_zz hc hg hn
    have := cv_sy (w := w) hc (N - (L + 1))
    rw [show L + 1 + (N - (L + 1)) = N by omega] at this
    rw [this]
    refine xs_zero fun i hi => ?_
    cases hw : w i with
    | false => simp only [Bool.false_eq_true, if_false, zero_ml]
    | true => simp only [if_true, hz i hi hw, zero_ml]
  · omega

/-- The point at which a place's root stands. -/
def pt (i : Nat) : Nat := (127 - i) % 127
theorem pt_ex {i j L : Nat} (hi : i < 127) (hj : j ≤ L) : ex (i * L + pt i * j) = ex (i * (L - j)) := by
  unfold pt
  by_cases h0 : i = 0
  · subst h0; simp
  · rw [Nat.mod_eq_of_lt (by omega)]
    have : i * L + (127 - i) * j = i * (L - j) + 127 * j := by
      obtain ⟨a, rfl⟩ : ∃ a, L = j + a := ⟨L - j, by omega⟩
      rw [show j + a - j = a by omega, Nat.mul_add, Nat.sub_mul]
      have : i * j ≤ 127 * j := Nat.mul_le_mul_right _ (by omega)
      omega
    rw [this, ex_per']
theorem zz_ev {c : Nat → E} {L i : Nat} (hi : i < 127) : zz c L i = ml (ex (i * L)) (xs (L + 1) fun j => ml (c j) (ex (pt i * j))) := by
  unfold zz
  rw [xs_ml]
  refine xs_congr fun j hj => ?_
  rw [ml_left, ml_exex, pt_ex hi (by omega)]

theorem cn_filter (p : Nat → Bool) : ∀ n, ((List.range n).filter p).length = cn n p
  | 0 => rfl
  | n + 1 => by
    rw [List.range_succ, List.filter_append, List.length_append, cn_filter p n, cn]
    cases h : p n <;> simp [h]

theorem pt_inj {i j : Nat} (hi : i < 127) (hj : j < 127) (h : ex (pt i) = ex (pt j)) : i = j := by
  have := ex_inj (Nat.mod_lt _ (by omega)) (Nat.mod_lt _ (by omega)) h
  unfold pt at this; omega

/-- Where few errors are, the polynomial is 0 at their places' points and nowhere else. -/
theorem few_roots {w : Nat → Bool} {c : Nat → E} {L N : Nat} (h0 : c 0 = 1) (hc : ∀ i, L < i → c i = 0) (hg : ∀ k, L < k → k < N → cv c (one0 (sy w)) k = 0) (hn : cn 127 w + L + 1 ≤ N) (hL : L ≤ cn 127 w) {i : Nat} (hi : i < 127) :
    xs (L + 1) (fun j => ml (c j) (ex (pt i * j))) = 0 ↔ w i = true := by
  have hz : ∀ i, i < 127 → w i = true → xs (L + 1) (fun j => ml (c j) (ex (pt i * j))) = 0 := fun i hi hw => by
    have := few_zz hc hg hn i hi hw
    rw [zz_ev hi] at this
    rcases ml_eq_zero this with h | h
    · exact absurd h (ex_ne _)
    · exact h
  refine ⟨fun h => ?_, hz i hi⟩
  cases hw : w i with
  | true => rfl
  | false =>
    exfalso
    let p : List E := (List.range (L + 1)).map c
    have hpl : p.length = L + 1 := by simp [p]
    have hp : ∀ m, evl p (ex m) = xs (L + 1) (fun j => ml (c j) (ex (m * j))) := fun m => by
      rw [evl_xs, hpl]
      refine xs_congr fun j hj => ?_
      congr 1
      simp only [p]
      rw [List.getD_eq_getElem?_getD, List.getElem?_map, List.getElem?_range hj]; rfl
    let l : List E := (i :: (List.range 127).filter w).map fun i => ex (pt i)
    have hl : l.Nodup := by
      simp only [l]
      rw [List.map_cons, List.nodup_cons]
      refine ⟨?_, ?_⟩
      · intro hm
        obtain ⟨j, hj, e⟩ := List.mem_map.1 hm
        obtain ⟨hj1, hj2⟩ := List.mem_filter.1 hj
        rw [pt_inj (List.mem_range.1 hj1) hi e, hw] at hj2
        cases hj2
      · rw [List.Nodup, List.pairwise_map]
        have hnd : ((List.range 127).filter w).Nodup := List.Pairwise.filter _ List.nodup_range
        refine List.Pairwise.imp_of_mem ?_ hnd
        intro a b ha hb hab e
        exact hab (pt_inj (List.mem_range.1 (List.mem_filter.1 ha).1) (List.mem_range.1 (List.mem_filter.1 hb).1) e)
    have := roots_le l p hl (by rw [hpl]; simp only [l, List.length_map, List.length_cons, cn_filter]; omega) (fun x hx => by
      obtain ⟨j, hj, rfl⟩ := List.mem_map.1 hx
      rw [hp]
      rcases List.mem_cons.1 hj with rfl | hj
      · exact h
      · obtain ⟨hj1, hj2⟩ := List.mem_filter.1 hj
        exact hz j (List.mem_range.1 hj1) hj2) (c 0) (List.mem_map.2 ⟨0, by simp, rfl⟩)
    rw [h0] at this
    exact absurd this (by decide)
end Go.SL.S

/- Two registers of functions as one. -/
namespace Go.SL
open Go
variable [GTab]
def orG (G H : FuncId → Option Spec) : FuncId → Option Spec := fun f => match G f with
  | some s => some s
  | none => H f
theorem Sound.or {P : Program} {G H : FuncId → Option Spec} (hG : Sound P G) (hH : Sound P H) : Sound P (orG G H) := by
  intro f s hs
  unfold orG at hs
  split at hs
  · rename_i s0 h0
    cases hs
    exact hG f _ h0
  · exact hH f s hs
end Go.SL

/- S-logic, part 27: closed facts that rows ask, in pieces that are small. -/
namespace Go.SL
open Go

def cutW : List Char := ([99, 117, 116] : List Nat).map Char.ofNat

theorem cutW_eq : "cut".toList = cutW := by decide
theorem cutW_gc : (cutW == "gc".toList) = false := by decide
theorem cutW_spec : (cutW == "spec".toList) = false := by decide
theorem cutW_carried : (cutW == "carried".toList) = false := by decide
theorem cutW_strip (rest : List (List Char)) : stripLifts liftWords (cutW :: rest) = ([], cutW :: rest) := by rfl

theorem make_cut {P : Program} {rest : List (List Char)} (h : behindMainWord (wordsSigns P.initOrder.toList) = cutW :: rest) : P.make = some .cut := by
  unfold Program.make
  rw [h]
  simp only [cutW_eq, cutW_gc, cutW_spec]
  simp

theorem lifts_cut {P : Program} {rest : List (List Char)} (h : behindMainWord (wordsSigns P.initOrder.toList) = cutW :: rest) : P.liftsFinal = false := by
  unfold Program.liftsFinal Program.headLifts
  rw [h]
  simp only [cutW_strip, cutW_eq]
  have e : (some cutW == some "carried".toList) = false := by decide
  simp
  intro e; exact absurd e (by decide)

theorem mayEnter_cut {P : Program} {rest : List (List Char)} (h : behindMainWord (wordsSigns P.initOrder.toList) = cutW :: rest) (h1 : P.laysLater = false) (h2 : P.bearsReflect = false) (h3 : P.doorFits [] = true) : P.mayEnter = true := by
  unfold Program.mayEnter
  rw [h]
  simp only [cutW_strip, h1, h2, h3, cutW_eq, cutW_gc, cutW_spec, cutW_carried]
  simp

theorem andT {a b : Bool} (ha : a = true) (hb : b = true) : (a && b) = true := by rw [ha, hb]; rfl
end Go.SL
