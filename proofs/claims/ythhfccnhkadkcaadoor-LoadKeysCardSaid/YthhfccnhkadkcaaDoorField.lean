/- The field of 128 elements; words, their sums and distances: the functions of the package field, and of the packages bch and amend, part a. -/
import Derived.Test.YthhfccnhkadkcaaDoorKb
import Derived.Test.YthhfccnhkadkcaaDoorT

/- The field of 128 elements; sums; few powers' sums. Plain mathematics. -/
namespace Go.SL.S

abbrev E := BitVec 7

def xt (a : E) : E := (a <<< 1) ^^^ (if a.msb then 9#7 else 0#7)

theorem xor_lc (a b c : E) : a ^^^ (b ^^^ c) = b ^^^ (a ^^^ c) := by rw [← BitVec.xor_assoc, BitVec.xor_comm a b, BitVec.xor_assoc]
theorem xor_sl (a b : E) : a ^^^ (a ^^^ b) = b := by rw [← BitVec.xor_assoc, BitVec.xor_self, BitVec.zero_xor]

theorem xt_xor (a b : E) : xt (a ^^^ b) = xt a ^^^ xt b := by
  unfold xt
  rw [BitVec.msb_xor, BitVec.shiftLeft_xor_distrib]
  generalize a <<< 1 = x
  generalize b <<< 1 = y
  cases a.msb <;> cases b.msb <;> simp only [Bool.false_bne, Bool.true_bne, Bool.not_false, Bool.not_true, if_true, if_false, Bool.false_eq_true, BitVec.xor_zero, BitVec.xor_assoc]
  · rw [BitVec.xor_comm y 9#7]
  · rw [xor_lc 9#7 y, BitVec.xor_self, BitVec.xor_zero]

theorem xor_self4 (a b : E) : (a ^^^ b) ^^^ b = a := by rw [BitVec.xor_assoc, BitVec.xor_self, BitVec.xor_zero]
theorem xor_zero_iff {a b : E} : a ^^^ b = 0 ↔ a = b := by
  constructor
  · intro h
    have := congrArg (· ^^^ b) h
    simp only [xor_self4] at this
    rw [this]; simp
  · rintro rfl; simp

def xtn : Nat → E → E
  | 0, a => a
  | n + 1, a => xt (xtn n a)
theorem xtn_xor (n : Nat) (a b : E) : xtn n (a ^^^ b) = xtn n a ^^^ xtn n b := by
  induction n with
  | zero => rfl
  | succ n ih => simp only [xtn, ih, xt_xor]
theorem xtn_zero (n : Nat) : xtn n 0 = 0 := by
  induction n with
  | zero => rfl
  | succ n ih => rw [xtn, ih]; rfl
theorem xtn_add (n m : Nat) (a : E) : xtn (n + m) a = xtn n (xtn m a) := by
  induction n with
  | zero => rw [Nat.zero_add]; rfl
  | succ n ih => rw [Nat.add_right_comm, xtn, ih]; rfl

/-- Powers of 2. -/
def ex (n : Nat) : E := xtn n 1
theorem ex_add (n m : Nat) : ex (n + m) = xtn n (ex m) := xtn_add n m 1
def exL : Nat → E → List E
  | 0, _ => []
  | n + 1, a => a :: exL n (xt a)
theorem exL_len : ∀ n a, (exL n a).length = n
  | 0, _ => rfl
  | n + 1, a => by rw [exL, List.length_cons, exL_len n]
theorem xtn_succ (n : Nat) (a : E) : xtn (n + 1) a = xtn n (xt a) := by
  rw [xtn_add n 1]; rfl
theorem exL_at : ∀ n a i, i < n → (exL n a)[i]? = some (xtn i a)
  | 0, _, i, h => by omega
  | n + 1, a, 0, _ => rfl
  | n + 1, a, i + 1, h => by
    rw [exL, List.getElem?_cons_succ, exL_at n (xt a) i (by omega), xtn_succ]

def exT : List E := exL 127 1
def lgN (a : E) : Nat := exT.idxOf a

theorem ex_T {i : Nat} (h : i < 127) : exT[i]? = some (ex i) := exL_at 127 1 i h
theorem ex127 : ex 127 = 1 := by decide +kernel
theorem lg_all : ((List.range 127).all fun i => lgN (exT.getD i 0) == i) = true := by decide +kernel
theorem lg_lt : ((List.range 128).all fun i => i == 0 || decide (lgN (BitVec.ofNat 7 i) < 127)) = true := by decide +kernel

theorem lg_ex {i : Nat} (h : i < 127) : lgN (ex i) = i := by
  have := List.all_eq_true.1 lg_all i (List.mem_range.2 h)
  rw [List.getD_eq_getElem?_getD, ex_T h] at this
  simpa using this
theorem lg_fit {a : E} (h : a ≠ 0) : lgN a < 127 := by
  have := List.all_eq_true.1 lg_lt a.toNat (List.mem_range.2 a.isLt)
  have h0 : a.toNat ≠ 0 := fun e => h (by apply BitVec.eq_of_toNat_eq; rw [e]; rfl)
  simpa [h0] using this
theorem ex_lg {a : E} (h : a ≠ 0) : ex (lgN a) = a := by
  have hl := lg_fit h
  have e := ex_T hl
  unfold lgN at *
  have hl2 : exT.idxOf a < exT.length := by have : exT.length = 127 := exL_len _ _; omega
  rw [List.getElem?_eq_getElem hl2] at e
  have := List.getElem_idxOf hl2
  rw [← Option.some.inj e, this]
theorem ex_per (n : Nat) : ex (n + 127) = ex n := by rw [ex_add, ex127]; rfl
theorem ex_per' (n k : Nat) : ex (n + 127 * k) = ex n := by
  induction k with
  | zero => rfl
  | succ k ih => rw [Nat.mul_succ, ← Nat.add_assoc, ex_per, ih]
theorem ex_mod (n : Nat) : ex (n % 127) = ex n := by
  have := ex_per' (n % 127) (n / 127)
  rw [Nat.mod_add_div] at this
  exact this.symm
theorem ex_ne (n : Nat) : ex n ≠ 0 := by
  intro h
  have h1 : ex (127 * (n + 1) - n + n) = 1 := by
    rw [show 127 * (n + 1) - n + n = 0 + 127 * (n + 1) by omega, ex_per']; rfl
  rw [ex_add, h, xtn_zero] at h1
  exact absurd h1 (by decide)
theorem ex_inj {i j : Nat} (hi : i < 127) (hj : j < 127) (h : ex i = ex j) : i = j := by
  rw [← lg_ex hi, ← lg_ex hj, h]

/-- The product. -/
def ml (a b : E) : E := if a = 0 then 0 else xtn (lgN a) b

theorem ml_ex {i : Nat} (b : E) : ml (ex i) b = xtn i b := by
  unfold ml
  rw [if_neg (ex_ne i)]
  by_cases hb : b = 0
  · rw [hb, xtn_zero, xtn_zero]
  · rw [← ex_lg hb, ← ex_add, ← ex_add, ← ex_mod (lgN (ex i) + _), ← ex_mod (i + _)]
    have : lgN (ex i) = i % 127 := by rw [← ex_mod i, lg_ex (Nat.mod_lt _ (by omega))]
    rw [this, Nat.mod_add_mod]
theorem ml_exex (i j : Nat) : ml (ex i) (ex j) = ex (i + j) := by rw [ml_ex, ex_add]
theorem zero_ml (a : E) : ml 0 a = 0 := by unfold ml; rw [if_pos rfl]
theorem ml_zero (a : E) : ml a 0 = 0 := by unfold ml; split; rfl; exact xtn_zero _
theorem cases_ex (a : E) : a = 0 ∨ ∃ i, i < 127 ∧ a = ex i := by
  by_cases h : a = 0
  · exact .inl h
  · exact .inr ⟨lgN a, lg_fit h, (ex_lg h).symm⟩
theorem ml_xor (a b c : E) : ml a (b ^^^ c) = ml a b ^^^ ml a c := by
  unfold ml; split
  · rfl
  · exact xtn_xor _ _ _
theorem ml_comm (a b : E) : ml a b = ml b a := by
  rcases cases_ex a with rfl | ⟨i, _, rfl⟩
  · rw [zero_ml, ml_zero]
  · rcases cases_ex b with rfl | ⟨j, _, rfl⟩
    · rw [zero_ml, ml_zero]
    · rw [ml_exex, ml_exex, Nat.add_comm]
theorem xor_ml (a b c : E) : ml (a ^^^ b) c = ml a c ^^^ ml b c := by rw [ml_comm, ml_xor, ml_comm c a, ml_comm c b]
theorem ml_assoc (a b c : E) : ml (ml a b) c = ml a (ml b c) := by
  rcases cases_ex a with rfl | ⟨i, _, rfl⟩
  · simp only [zero_ml]
  · rcases cases_ex b with rfl | ⟨j, _, rfl⟩
    · simp only [zero_ml, ml_zero]
    · rw [ml_exex, ml_ex, ml_ex, ml_ex, xtn_add]
theorem ml_one (a : E) : ml 1 a = a := by have := ml_ex (i := 0) a; exact this
theorem ml_eq_zero {a b : E} (h : ml a b = 0) : a = 0 ∨ b = 0 := by
  rcases cases_ex a with rfl | ⟨i, _, rfl⟩
  · exact .inl rfl
  · rcases cases_ex b with rfl | ⟨j, _, rfl⟩
    · exact .inr rfl
    · rw [ml_exex] at h; exact absurd h (ex_ne _)
theorem ml_left (a b c : E) : ml a (ml b c) = ml b (ml a c) := by rw [← ml_assoc, ml_comm a b, ml_assoc]

/-! ### Sums -/
def xs : Nat → (Nat → E) → E
  | 0, _ => 0
  | n + 1, f => xs n f ^^^ f n
theorem xs_congr {f g : Nat → E} : ∀ {n : Nat}, (∀ i, i < n → f i = g i) → xs n f = xs n g
  | 0, _ => rfl
  | n + 1, h => by rw [xs, xs, xs_congr fun i hi => h i (by omega), h n (by omega)]
theorem xs_zero : ∀ {n : Nat} {f : Nat → E}, (∀ i, i < n → f i = 0) → xs n f = 0
  | 0, _, _ => rfl
  | n + 1, f, h => by rw [xs, xs_zero fun i hi => h i (by omega), h n (by omega)]; rfl
theorem xs_xor (f g : Nat → E) : ∀ n, xs n (fun i => f i ^^^ g i) = xs n f ^^^ xs n g
  | 0 => by simp [xs]
  | n + 1 => by
    rw [xs, xs, xs, xs_xor f g n, BitVec.xor_assoc, xor_lc (xs n g), ← BitVec.xor_assoc]
theorem xs_ml (a : E) (f : Nat → E) : ∀ n, ml a (xs n f) = xs n (fun i => ml a (f i))
  | 0 => ml_zero a
  | n + 1 => by rw [xs, xs, ml_xor, xs_ml a f n]
theorem xs_swap (f : Nat → Nat → E) : ∀ n m, xs n (fun i => xs m (fun j => f i j)) = xs m (fun j => xs n (fun i => f i j))
  | 0, m => (xs_zero fun _ _ => rfl).symm
  | n + 1, m => by
    rw [xs, xs_swap f n m, ← xs_xor]; rfl
theorem xs_one {n k : Nat} {f : Nat → E} (hk : k < n) (h : ∀ i, i < n → i ≠ k → f i = 0) : xs n f = f k := by
  induction n with
  | zero => omega
  | succ n ih =>
    rw [xs]
    by_cases e : k = n
    · subst e
      rw [xs_zero fun i hi => h i (by omega) (by omega)]; simp
    · rw [ih (by omega) fun i hi => h i (by omega), h n (by omega) (by omega)]; simp
theorem xs_more {n m : Nat} {f : Nat → E} (hm : n ≤ m) (h : ∀ i, n ≤ i → i < m → f i = 0) : xs m f = xs n f := by
  induction m with
  | zero => rw [show n = 0 by omega]
  | succ m ih =>
    by_cases e : n = m + 1
    · rw [e]
    · rw [xs, ih (by omega) fun i h1 h2 => h i h1 (by omega), h m (by omega) (by omega)]; simp

/-! ### How many -/
def cn : Nat → (Nat → Bool) → Nat
  | 0, _ => 0
  | n + 1, p => cn n p + (if p n then 1 else 0)
theorem cn_congr {p q : Nat → Bool} : ∀ {n : Nat}, (∀ i, i < n → p i = q i) → cn n p = cn n q
  | 0, _ => rfl
  | n + 1, h => by rw [cn, cn, cn_congr fun i hi => h i (by omega), h n (by omega)]
theorem cn_le {p q : Nat → Bool} : ∀ {n : Nat}, (∀ i, i < n → p i = true → q i = true) → cn n p ≤ cn n q
  | 0, _ => Nat.le_refl _
  | n + 1, h => by
    have := cn_le (n := n) fun i hi => h i (by omega)
    have := h n (by omega)
    rw [cn, cn]
    cases hp : p n <;> cases hq : q n <;> simp_all <;> omega
theorem cn_lt {p q : Nat → Bool} {n k : Nat} (hk : k < n) (hp : p k = false) (hq : q k = true) (h : ∀ i, i < n → p i = true → q i = true) : cn n p + 1 ≤ cn n q := by
  induction n with
  | zero => omega
  | succ n ih =>
    rw [cn, cn]
    by_cases e : k = n
    · subst e
      have := cn_le (n := k) fun i hi => h i (by omega)
      rw [hp, hq]; simp; omega
    · have h1 := ih (by omega) fun i hi => h i (by omega)
      have h2 := h n (by omega)
      cases hp : p n <;> cases hq : q n <;> simp_all <;> omega
theorem cn_zero {p : Nat → Bool} : ∀ {n : Nat}, cn n p = 0 → ∀ i, i < n → p i = false
  | 0, _, i, hi => by omega
  | n + 1, h, i, hi => by
    rw [cn] at h
    by_cases e : i = n
    · subst e
      cases hp : p i with
      | false => rfl
      | true => rw [hp] at h; simp at h
    · exact cn_zero (n := n) (by omega) i (by omega)
theorem cn_none {p : Nat → Bool} : ∀ {n : Nat}, (∀ i, i < n → p i = false) → cn n p = 0
  | 0, _ => rfl
  | n + 1, h => by rw [cn, cn_none fun i hi => h i (by omega), h n (by omega)]; rfl
theorem cn_add (p q r : Nat → Bool) : ∀ {n : Nat}, (∀ i, i < n → (if p i then 1 else 0) + (if q i then 1 else 0) = if r i then 1 else 0) → cn n p + cn n q = cn n r
  | 0, _ => rfl
  | n + 1, h => by
    have := cn_add p q r (n := n) fun i hi => h i (by omega)
    have := h n (by omega)
    rw [cn, cn, cn]; omega
theorem cn_sub (p q r : Nat → Bool) : ∀ {n : Nat}, (∀ i, i < n → r i = true → p i = true ∨ q i = true) → cn n r ≤ cn n p + cn n q
  | 0, _ => Nat.le_refl _
  | n + 1, h => by
    have := cn_sub p q r (n := n) fun i hi => h i (by omega)
    have := h n (by omega)
    rw [cn, cn, cn]
    cases hr : r n <;> cases hp : p n <;> cases hq : q n <;> simp_all <;> omega

/-- Of a few places no sums of powers are all 0. -/
theorem vander (N : Nat) (hN : N ≤ 127) (m : Nat) : ∀ (y : Nat → E), cn N (fun i => decide (y i ≠ 0)) ≤ m → (∀ k, k < m → xs N (fun i => ml (y i) (ex (i * k))) = 0) → ∀ i, i < N → y i = 0 := by
  induction m with
  | zero =>
    intro y hc _ i hi
    have := cn_zero (Nat.le_zero.1 hc) i hi
    simpa using this
  | succ m vih =>
    intro y hc hs i hi
    by_cases hz : ∀ i, i < N → y i = 0
    · exact hz i hi
    · obtain ⟨a, ha⟩ := Classical.not_forall.1 hz
      obtain ⟨ha, hya⟩ : a < N ∧ y a ≠ 0 := by simpa using ha
      have ih := vih (fun i => ml (y i) (ex i ^^^ ex a)) (by
        have := cn_lt (n := N) (k := a) (p := fun i => decide (ml (y i) (ex i ^^^ ex a) ≠ 0)) (q := fun i => decide (y i ≠ 0)) ha (by rw [BitVec.xor_self]; exact decide_eq_false fun h => h (ml_zero _)) (by simpa using hya) (fun j _ hj => by
          simp only [decide_eq_true_eq] at hj ⊢
          intro e; rw [e, zero_ml] at hj; exact hj rfl)
        omega) (fun k hk => by
        have h1 := hs (k + 1) (by omega)
        have h2 := hs k (by omega)
        have h3 := xs_ml (ex a) (fun i => ml (y i) (ex (i * k))) N
        rw [h2, ml_zero] at h3
        have h4 := xs_xor (fun i => ml (y i) (ex (i * (k + 1)))) (fun i => ml (ex a) (ml (y i) (ex (i * k)))) N
        rw [h1, ← h3] at h4
        rw [← show (0 : E) ^^^ 0 = 0 by simp, ← h4]
        refine xs_congr fun j _ => ?_
        rw [ml_assoc, xor_ml, ml_exex, ml_left (ex a), ← ml_xor, Nat.mul_succ, Nat.add_comm])
      have hne : ∀ j, j < N → j ≠ a → y j = 0 := fun j hj hja => by
        rcases ml_eq_zero (ih j hj) with h | h
        · exact h
        · exact absurd (ex_inj (Nat.lt_of_lt_of_le hj hN) (Nat.lt_of_lt_of_le ha hN) (xor_zero_iff.1 h)) hja
      have h0 := hs 0 (by omega)
      rw [xs_one ha fun j hj hja => by rw [hne j hj hja, zero_ml]] at h0
      rcases ml_eq_zero h0 with h | h
      · exact absurd h hya
      · exact absurd h (ex_ne _)
end Go.SL.S

/- Errors' polynomials (Berlekamp and Massey); roots. Plain mathematics. -/
namespace Go.SL.S

/-! ### Polynomials -/
def evl : List E → E → E
  | [], _ => 0
  | a :: p, x => a ^^^ ml x (evl p x)
theorem xz (a : E) : a ^^^ (0 : E) = a := BitVec.xor_zero
theorem zx (a : E) : (0 : E) ^^^ a = a := BitVec.zero_xor
theorem evl_cons (a : E) (p : List E) (x : E) : evl (a :: p) x = a ^^^ ml x (evl p x) := rfl
def syn (r : E) : List E → List E
  | [] => []
  | b :: p => evl (b :: p) r :: syn r p
theorem syn_len (r : E) : ∀ p, (syn r p).length = p.length
  | [] => rfl
  | b :: p => by rw [syn, List.length_cons, List.length_cons, syn_len r p]
theorem syn_ev (r x : E) : ∀ (p : List E) (a : E), evl (a :: p) x ^^^ evl (a :: p) r = ml (x ^^^ r) (evl (syn r p) x)
  | [], a => by simp only [evl, syn, ml_zero, BitVec.xor_zero, BitVec.xor_self]; rfl
  | b :: p, a => by
    have ih := syn_ev r x p b
    rw [evl_cons a, evl_cons a, syn, evl_cons (evl (b :: p) r)]
    generalize evl (b :: p) x = X at *
    generalize evl (b :: p) r = R at *
    generalize evl (syn r p) x = Q at *
    rw [ml_xor, ml_left (x ^^^ r), ← ih, ml_xor, xor_ml]
    simp only [BitVec.xor_assoc]
    rw [xor_lc _ a, xor_sl, xor_lc (ml x R) (ml r R), xor_lc (ml x R) (ml x X), BitVec.xor_self, BitVec.xor_zero, BitVec.xor_comm]
theorem syn_zero (r : E) : ∀ p, (∀ a ∈ syn r p, a = 0) → ∀ a ∈ p, a = 0
  | [], _ => by simp
  | b :: p, h => by
    have ht := syn_zero r p fun a ha => h a (by rw [syn]; exact List.mem_cons_of_mem _ ha)
    have hh := h (evl (b :: p) r) (by rw [syn]; exact List.mem_cons_self)
    have h0 : ∀ (q : List E), (∀ a ∈ q, a = 0) → ∀ x, evl q x = 0 := by
      intro q
      induction q with
      | nil => intros; rfl
      | cons a q ih => intro hq x; rw [evl, hq a List.mem_cons_self, ih (fun a ha => hq a (List.mem_cons_of_mem _ ha)), ml_zero]; rfl
    rw [evl, h0 p ht, ml_zero, xz] at hh
    intro a ha
    rcases List.mem_cons.1 ha with rfl | ha
    · exact hh
    · exact ht a ha
theorem evl_zero : ∀ (q : List E), (∀ a ∈ q, a = 0) → ∀ x, evl q x = 0
  | [], _, _ => rfl
  | a :: q, h, x => by rw [evl, h a List.mem_cons_self, evl_zero q (fun a ha => h a (List.mem_cons_of_mem _ ha)), ml_zero]; rfl
theorem roots_le : ∀ (l : List E) (p : List E), l.Nodup → p.length ≤ l.length → (∀ x ∈ l, evl p x = 0) → ∀ a ∈ p, a = 0
  | [], p, _, hl, _ => by
    have : p = [] := List.length_eq_zero_iff.1 (by simpa using hl)
    subst this; simp
  | r :: l, [], _, _, _ => by simp
  | r :: l, a :: p, hn, hl, h => by
    obtain ⟨hr, hn⟩ := List.nodup_cons.1 hn
    have h1 := h r List.mem_cons_self
    have ih := roots_le l (syn r p) hn (by rw [syn_len]; simpa using hl) (fun x hx => by
      have e := syn_ev r x p a
      rw [h1, h x (List.mem_cons_of_mem _ hx), BitVec.xor_self] at e
      rcases ml_eq_zero e.symm with e | e
      · rw [xor_zero_iff.1 e] at hx; exact absurd hx hr
      · exact e)
    have hp := syn_zero r p ih
    rw [evl, evl_zero p hp, ml_zero, xz] at h1
    intro b hb
    rcases List.mem_cons.1 hb with rfl | hb
    · exact h1
    · exact hp b hb

theorem xs_head (f : Nat → E) : ∀ n, xs (n + 1) f = f 0 ^^^ xs n (fun i => f (i + 1))
  | 0 => by simp [xs]
  | n + 1 => by rw [xs, xs_head f n, xs, BitVec.xor_assoc]
theorem evl_xs (m : Nat) : ∀ p : List E, evl p (ex m) = xs p.length (fun j => ml (p.getD j 0) (ex (m * j)))
  | [] => rfl
  | a :: p => by
    rw [evl, evl_xs m p, List.length_cons, xs_head, xs_ml]
    congr 1
    · show a = ml a (ex 0)
      rw [ml_comm]; exact (ml_one a).symm
    · refine xs_congr fun j _ => ?_
      rw [ml_left, ml_exex, List.getD_cons_succ, Nat.mul_succ, Nat.add_comm]

/-! ### Convolutions -/
def cv (c t : Nat → E) (k : Nat) : E := xs (k + 1) fun i => ml (c i) (t (k - i))
theorem cv_xor (c b t : Nat → E) (k : Nat) : cv (fun i => c i ^^^ b i) t k = cv c t k ^^^ cv b t k := by
  unfold cv; rw [← xs_xor]; exact xs_congr fun i _ => xor_ml _ _ _
theorem cv_ml (a : E) (b t : Nat → E) (k : Nat) : cv (fun i => ml a (b i)) t k = ml a (cv b t k) := by
  unfold cv; rw [xs_ml]; exact xs_congr fun i _ => ml_assoc _ _ _
theorem xs_shift (f : Nat → E) (g : Nat) : ∀ n, (∀ i, i < g → f i = 0) → xs (n + g) f = xs n (fun i => f (i + g))
  | 0, h => by rw [Nat.zero_add]; exact xs_zero h
  | n + 1, h => by rw [Nat.add_right_comm, xs, xs_shift f g n h, xs]
theorem cv_shift (b t : Nat → E) (g k : Nat) : cv (fun i => if i < g then 0 else b (i - g)) t k = if k < g then 0 else cv b t (k - g) := by
  unfold cv
  split
  · exact xs_zero fun i hi => by simp only [if_pos (show i < g by omega), zero_ml]
  · rw [show k + 1 = k - g + 1 + g by omega, xs_shift _ g _ fun i hi => by simp only [if_pos hi, zero_ml]]
    refine xs_congr fun i hi => ?_
    simp only [if_neg (show ¬ i + g < g by omega), show i + g - g = i by omega]
    rw [show k - (i + g) = k - g - i by omega]

/-- The search's state, ahead of what stands at N. -/
structure BM (t : Nat → E) (N : Nat) (c b : Nat → E) (L M : Nat) (last : E) : Prop where
  c0 : c 0 = 1
  cdeg : ∀ i, L < i → c i = 0
  cgen : ∀ k, L < k → k < N → cv c t k = 0
  LM : L ≤ M
  MN : M < N
  bdeg : ∀ i, M - L < i → b i = 0
  bgen : ∀ k, M - L < k → k < M → cv b t k = 0
  bdis : cv b t M = last
  ln : last ≠ 0

def grow (c b : Nat → E) (g : Nat) (a : E) : Nat → E := fun i => c i ^^^ (if i < g then 0 else ml a (b (i - g)))
theorem cv_grow (c b t : Nat → E) (g : Nat) (a : E) (k : Nat) : cv (grow c b g a) t k = cv c t k ^^^ (if k < g then 0 else ml a (cv b t (k - g))) := by
  unfold grow
  have := cv_shift (fun i => ml a (b i)) t g k
  rw [cv_ml] at this
  rw [cv_xor, this]

theorem BM.same {t : Nat → E} {N : Nat} {c b : Nat → E} {L M : Nat} {last : E} (h : BM t N c b L M last) (hd : cv c t N = 0) : BM t (N + 1) c b L M last :=
  { h with
    cgen := fun k h1 h2 => by
      by_cases e : k = N
      · rw [e]; exact hd
      · exact h.cgen k h1 (by omega)
    MN := by have := h.MN; omega }

theorem BM.gen {t : Nat → E} {N : Nat} {c b : Nat → E} {L M : Nat} {last a : E} (h : BM t N c b L M last) (ha : ml a last = cv c t N) (k : Nat) (hL : L < k) (hk : k ≤ N) (hm : M - L < k - (N - M)) : cv (grow c b (N - M) a) t k = 0 := by
  have hM := h.MN
  rw [cv_grow, if_neg (by omega)]
  by_cases e : k = N
  · subst e
    rw [show k - (k - M) = M by omega, h.bdis, ha, BitVec.xor_self]; rfl
  · rw [h.cgen k hL (by omega), h.bgen _ hm (by omega), ml_zero]; rfl

theorem BM.grow {t : Nat → E} {N : Nat} {c b : Nat → E} {L M : Nat} {last a : E} (h : BM t N c b L M last) (ha : ml a last = cv c t N) (hd : cv c t N ≠ 0) (h2 : 2 * L + 1 ≤ N) : BM t (N + 1) (grow c b (N - M) a) c (N - L) N (cv c t N) where
  c0 := by have := h.MN; unfold S.grow; rw [if_pos (by omega), h.c0]; rfl
  cdeg := fun i hi => by
    have := h.LM; have := h.MN
    unfold S.grow
    rw [h.cdeg i (by omega)]
    split
    · rfl
    · rw [h.bdeg _ (by omega), ml_zero]; rfl
  cgen := fun k h1 h3 => by have := h.LM; have := h.MN; exact h.gen ha k (by omega) (by omega) (by omega)
  LM := by omega
  MN := by omega
  bdeg := fun i hi => h.cdeg i (by omega)
  bgen := fun k h1 h3 => h.cgen k (by omega) h3
  bdis := rfl
  ln := hd

theorem BM.keep {t : Nat → E} {N : Nat} {c b : Nat → E} {L M : Nat} {last a : E} (h : BM t N c b L M last) (ha : ml a last = cv c t N) (h2 : N < 2 * L + 1) : BM t (N + 1) (S.grow c b (N - M) a) b L M last :=
  { h with
    c0 := by have := h.MN; unfold S.grow; rw [if_pos (by omega), h.c0]; rfl
    cdeg := fun i hi => by
      have := h.LM; have := h.MN
      unfold S.grow
      rw [h.cdeg i hi]
      split
      · rfl
      · rw [h.bdeg _ (by omega), ml_zero]; rfl
    cgen := fun k h1 h3 => by have := h.LM; have := h.MN; exact h.gen ha k (by omega) (by omega) (by omega)
    MN := by have := h.MN; omega }

/-! ### Few errors -/
/-- A word at a power. -/
def sy (w : Nat → Bool) (k : Nat) : E := xs 127 fun i => if w i then ex (i * k) else 0
def one0 (s : Nat → E) (k : Nat) : E := if k = 0 then 1 else s k
def zz (c : Nat → E) (L i : Nat) : E := xs (L + 1) fun j => ml (c j) (ex (i * (L - j)))

theorem cv_sy {w : Nat → Bool} {c : Nat → E} {L : Nat} (hc : ∀ i, L < i → c i = 0) (k : Nat) : cv c (one0 (sy w)) (L + 1 + k) = xs 127 fun i => ml (if w i then ml (zz c L i) (ex i) else 0) (ex (i * k)) := by
  unfold cv
  rw [xs_more (n := L + 1) (by omega) fun i h1 _ => by rw [hc i (by omega), zero_ml]]
  have e1 : xs (L + 1) (fun j => ml (c j) (one0 (sy w) (L + 1 + k - j))) = xs (L + 1) fun j => xs 127 fun i => ml (c j) (if w i then ex (i * (L + 1 + k - j)) else 0) := xs_congr fun j hj => by
    unfold one0
    rw [if_neg (by omega), sy, xs_ml]
  rw [e1, xs_swap]
  refine xs_congr fun i _ => ?_
  cases w i with
  | false => simp only [Bool.false_eq_true, if_false, zero_ml, ml_zero]; exact xs_zero fun _ _ => rfl
  | true =>
    simp only [if_true]
    unfold zz
    rw [ml_assoc, ml_exex, ml_comm, xs_ml]
    refine xs_congr fun j hj => ?_
    rw [ml_left, ml_exex]
    congr 2
    rw [show L + 1 + k - j = 1 + k + (L - j) by omega, Nat.mul_add, Nat.mul_add, Nat.mul_one]

theorem few_zz {w : Nat → Bool} {c : Nat → E} {L N : Nat} (hc : ∀ i, L < i → c i = 0) (hg : ∀ k, L < k → k < N → cv c (one0 (sy w)) k = 0) (hn : cn 127 w + L + 1 ≤ N) : ∀ i, i < 127 → w i = true → zz c L i = 0 := by
  intro i hi hw
  have := vander 127 (Nat.le_refl _) (cn 127 w) (fun i => if w i then ml (zz c L i) (ex i) else 0) (cn_le fun j _ hj => by
    cases hwj : w j with
    | true => rfl
    | false => rw [hwj] at hj; simp at hj) (fun k hk => by rw [← cv_sy hc]; exact hg _ (by omega) (by omega)) i hi
  simp only [hw, if_true] at this
  rcases ml_eq_zero this with h | h
  · exact h
  · exact absurd h (ex_ne _)

/-- The search's length is never more than how many errors there are. -/
theorem few_len {w : Nat → Bool} {c : Nat → E} {L N : Nat} (hc : ∀ i, L < i → c i = 0) (hg : ∀ k, L < k → k < N → cv c (one0 (sy w)) k = 0) (hL : L < N) (hd : cv c (one0 (sy w)) N ≠ 0) : N - L ≤ cn 127 w := by
  by_cases hn : cn 127 w + L + 1 ≤ N
  · refine absurd ?_ hd
    have hz := few_zz hc hg hn
    have := cv_sy (w := w) hc (N - (L + 1))
    rw [show L + 1 + (N - (L + 1)) = N by omega] at this
    rw [this]
    refine xs_zero fun i hi => ?_
    cases hw : w i with
    | false => simp only [Bool.false_eq_true, if_false, zero_ml]
    | true => simp only [if_true, hz i hi hw, zero_ml]
  · omega

/-- The point at which a place's root stands. -/
def pt (i : Nat) : Nat := (127 - i) % 127
theorem pt_ex {i j L : Nat} (hi : i < 127) (hj : j ≤ L) : ex (i * L + pt i * j) = ex (i * (L - j)) := by
  unfold pt
  by_cases h0 : i = 0
  · subst h0; simp
  · rw [Nat.mod_eq_of_lt (by omega)]
    have : i * L + (127 - i) * j = i * (L - j) + 127 * j := by
      obtain ⟨a, rfl⟩ : ∃ a, L = j + a := ⟨L - j, by omega⟩
      rw [show j + a - j = a by omega, Nat.mul_add, Nat.sub_mul]
      have : i * j ≤ 127 * j := Nat.mul_le_mul_right _ (by omega)
      omega
    rw [this, ex_per']
theorem zz_ev {c : Nat → E} {L i : Nat} (hi : i < 127) : zz c L i = ml (ex (i * L)) (xs (L + 1) fun j => ml (c j) (ex (pt i * j))) := by
  unfold zz
  rw [xs_ml]
  refine xs_congr fun j hj => ?_
  rw [ml_left, ml_exex, pt_ex hi (by omega)]

theorem cn_filter (p : Nat → Bool) : ∀ n, ((List.range n).filter p).length = cn n p
  | 0 => rfl
  | n + 1 => by
    rw [List.range_succ, List.filter_append, List.length_append, cn_filter p n, cn]
    cases h : p n <;> simp [h]

theorem pt_inj {i j : Nat} (hi : i < 127) (hj : j < 127) (h : ex (pt i) = ex (pt j)) : i = j := by
  have := ex_inj (Nat.mod_lt _ (by omega)) (Nat.mod_lt _ (by omega)) h
  unfold pt at this; omega

/-- Where few errors are, the polynomial is 0 at their places' points and nowhere else. -/
theorem few_roots {w : Nat → Bool} {c : Nat → E} {L N : Nat} (h0 : c 0 = 1) (hc : ∀ i, L < i → c i = 0) (hg : ∀ k, L < k → k < N → cv c (one0 (sy w)) k = 0) (hn : cn 127 w + L + 1 ≤ N) (hL : L ≤ cn 127 w) {i : Nat} (hi : i < 127) :
    xs (L + 1) (fun j => ml (c j) (ex (pt i * j))) = 0 ↔ w i = true := by
  have hz : ∀ i, i < 127 → w i = true → xs (L + 1) (fun j => ml (c j) (ex (pt i * j))) = 0 := fun i hi hw => by
    have := few_zz hc hg hn i hi hw
    rw [zz_ev hi] at this
    rcases ml_eq_zero this with h | h
    · exact absurd h (ex_ne _)
    · exact h
  refine ⟨fun h => ?_, hz i hi⟩
  cases hw : w i with
  | true => rfl
  | false =>
    exfalso
    let p : List E := (List.range (L + 1)).map c
    have hpl : p.length = L + 1 := by simp [p]
    have hp : ∀ m, evl p (ex m) = xs (L + 1) (fun j => ml (c j) (ex (m * j))) := fun m => by
      rw [evl_xs, hpl]
      refine xs_congr fun j hj => ?_
      congr 1
      simp only [p]
      rw [List.getD_eq_getElem?_getD, List.getElem?_map, List.getElem?_range hj]; rfl
    let l : List E := (i :: (List.range 127).filter w).map fun i => ex (pt i)
    have hl : l.Nodup := by
      simp only [l]
      rw [List.map_cons, List.nodup_cons]
      refine ⟨?_, ?_⟩
      · intro hm
        obtain ⟨j, hj, e⟩ := List.mem_map.1 hm
        obtain ⟨hj1, hj2⟩ := List.mem_filter.1 hj
        rw [pt_inj (List.mem_range.1 hj1) hi e, hw] at hj2
        cases hj2
      · rw [List.Nodup, List.pairwise_map]
        have hnd : ((List.range 127).filter w).Nodup := List.Pairwise.filter _ List.nodup_range
        refine List.Pairwise.imp_of_mem ?_ hnd
        intro a b ha hb hab e
        exact hab (pt_inj (List.mem_range.1 (List.mem_filter.1 ha).1) (List.mem_range.1 (List.mem_filter.1 hb).1) e)
    have := roots_le l p hl (by rw [hpl]; simp only [l, List.length_map, List.length_cons, cn_filter]; omega) (fun x hx => by
      obtain ⟨j, hj, rfl⟩ := List.mem_map.1 hx
      rw [hp]
      rcases List.mem_cons.1 hj with rfl | hj
      · exact h
      · obtain ⟨hj1, hj2⟩ := List.mem_filter.1 hj
        exact hz j (List.mem_range.1 hj1) hj2) (c 0) (List.mem_map.2 ⟨0, by simp, rfl⟩)
    rw [h0] at this
    exact absurd this (by decide)
end Go.SL.S

/- The field of 128 elements, as numbers: plain functions. -/
namespace Go.SL.S
open Go Go.SL
abbrev FT : Ty := .cons (.arr 127 (.int .i64)) (.last (.arr 128 (.int .i64)))
def toE (a : Int) : E := BitVec.ofInt 7 a
def ofE (e : E) : Int := (e.toNat : Int)
def xpI (n : Int) : Int := ofE (ex (n % 127).toNat)
def lgI (a : Int) : Int := if toE a = 0 then -1 else (lgN (toE a) : Int)
def mlI (a b : Int) : Int := ofE (ml (toE a) (toE b))
def invI (a : Int) : Int := if toE a = 0 then 0 else ofE (ex ((127 - lgN (toE a)) % 127))
def expT : List Int := (List.range 127).map fun i => ofE (ex i)
def logTo (i : Nat) : List Int := (List.range 128).map fun a : Nat => if toE (a : Int) ≠ 0 ∧ lgN (toE (a : Int)) < i then (lgN (toE (a : Int)) : Int) else 0
def logT : List Int := (List.range 128).map fun a : Nat => lgI (a : Int)
def fieldT : List Int × List Int := (expT, logT)
def powTo (a : Int) : Nat → Int
  | 0 => 1
  | n + 1 => mlI (powTo a n) a
def evI : List Int → Int → Int
  | [], _ => 0
  | a :: p, x => ofE (ml (toE (evI p x)) (toE x) ^^^ toE a)
end Go.SL.S

/- Functions and what they are held to do: bound to their code. -/
namespace Go.SL.A
open Go Go.SL Go.SL.S
set_option maxRecDepth 100000
noncomputable def C155 : Ctx := ⟨Go.Proofs.Tryd.prog, D, G00, (fun _ _ => none), fun _ => []⟩
def ann155 (_a : Int) : Nat → St → Option Ann := fun _ _ => none
def out155 (a : Int) : COut := ⟨[], .v (.int .i64) (a % 128), [], []⟩
def sp155 : Spec := fun args ins => match args, ins with
  | [⟨.int .i64, a⟩], [] => some (out155 a)
  | _, _ => none
def G155 := addG G00 125 sp155
def P155 (a : Int) : Prop :=
  (128 : Int) ≠ (0 : Int) ∧ bif decide (Int.tmod a (128 : Int) < (0 : Int)) then IntKind.wrap IntKind.i64 (Int.tmod a (128 : Int) + (128 : Int)) = a % (128 : Int) else Int.tmod a (128 : Int) = a % (128 : Int)
theorem vc155 (a : Int) : P155 a = vcFun C155 (ann155 a) Go.Proofs.Tryd.f125 [⟨.int .i64, a⟩] [] (out155 a) := by kernel_rfl

noncomputable def C136 : Ctx := ⟨Go.Proofs.Tryd.prog, D, G155, (fun _ _ => none), fun _ => []⟩
def ann136 (a b : Int) : Nat → St → Option Ann := fun _ _ => some ⟨Int × Int × Int, [], [], fun x => [(0, .v (.int .i64) x.1), (1, .v (.int .i64) x.2.1), (5, .v (.int .i64) x.2.2)], fun _ => [], fun x => (0 ≤ x.1 ∧ x.1 < 128) ∧ (0 ≤ x.2.1 ∧ x.2.1 < 128) ∧ (0 ≤ x.2.2 ∧ x.2.2 < 128) ∧ toE x.2.2 ^^^ ml (toE x.1) (toE x.2.1) = ml (toE a) (toE b), fun x => x.2.1.toNat⟩
def out136 (a b : Int) : COut := ⟨[], .v (.int .i64) (mlI a b), [], []⟩
def sp136 : Spec := fun args ins => match args, ins with
  | [⟨.int .i64, a⟩, ⟨.int .i64, b⟩], [] => some (out136 a b)
  | _, _ => none
def G136 := addG G155 101 sp136
def P136 (a b : Int) : Prop :=
  ∃ (x : Int × Int × Int), ((a % (128 : Int) = Prod.fst x ∧ b % (128 : Int) = Prod.fst (Prod.snd x) ∧ (0 : Int) = Prod.snd (Prod.snd x)) ∧ ((0 : Int) ≤ Prod.fst x ∧ Prod.fst x < (128 : Int)) ∧ ((0 : Int) ≤ Prod.fst
  (Prod.snd x) ∧ Prod.fst (Prod.snd x) < (128 : Int)) ∧ ((0 : Int) ≤ Prod.snd (Prod.snd x) ∧ Prod.snd (Prod.snd x) < (128 : Int)) ∧ toE (Prod.snd (Prod.snd x)) ^^^ ml (toE (Prod.fst x)) (toE (Prod.fst (Prod.snd x))) = ml
  (toE a) (toE b)) ∧ ∀ (x : Int × Int × Int), ((0 : Int) ≤ Prod.fst x ∧ Prod.fst x < (128 : Int)) ∧ ((0 : Int) ≤ Prod.fst (Prod.snd x) ∧ Prod.fst (Prod.snd x) < (128 : Int)) ∧ ((0 : Int) ≤ Prod.snd (Prod.snd x) ∧ Prod.snd
  (Prod.snd x) < (128 : Int)) ∧ toE (Prod.snd (Prod.snd x)) ^^^ ml (toE (Prod.fst x)) (toE (Prod.fst (Prod.snd x))) = ml (toE a) (toE b) → IntKind.min IntKind.i64 ≤ Prod.fst x ∧ Prod.fst x ≤ IntKind.max IntKind.i64 ∧
  IntKind.min IntKind.i64 ≤ Prod.fst (Prod.snd x) ∧ Prod.fst (Prod.snd x) ≤ IntKind.max IntKind.i64 ∧ IntKind.min IntKind.i64 ≤ Prod.snd (Prod.snd x) ∧ Prod.snd (Prod.snd x) ≤ IntKind.max IntKind.i64 → bif decide ((0 : Int)
  < Prod.fst (Prod.snd x)) then (2 : Int) ≠ (0 : Int) ∧ bif decide (Int.tmod (Prod.fst (Prod.snd x)) (2 : Int) = (1 : Int)) then bif decide ((128 : Int) ≤ IntKind.wrap IntKind.i64 ((2 : Int) * Prod.fst x)) then (2 : Int) ≠
  (0 : Int) ∧ ∃ (y : Int × Int × Int), (ixor IntKind.i64 (IntKind.wrap IntKind.i64 ((2 : Int) * Prod.fst x)) (137 : Int) = Prod.fst y ∧ IntKind.wrap IntKind.i64 (Int.tdiv (Prod.fst (Prod.snd x)) (2 : Int)) = Prod.fst
  (Prod.snd y) ∧ ixor IntKind.i64 (Prod.snd (Prod.snd x)) (Prod.fst x) = Prod.snd (Prod.snd y)) ∧ (((0 : Int) ≤ Prod.fst y ∧ Prod.fst y < (128 : Int)) ∧ ((0 : Int) ≤ Prod.fst (Prod.snd y) ∧ Prod.fst (Prod.snd y) < (128 :
  Int)) ∧ ((0 : Int) ≤ Prod.snd (Prod.snd y) ∧ Prod.snd (Prod.snd y) < (128 : Int)) ∧ toE (Prod.snd (Prod.snd y)) ^^^ ml (toE (Prod.fst y)) (toE (Prod.fst (Prod.snd y))) = ml (toE a) (toE b)) ∧ Int.toNat (Prod.fst (Prod.snd
  y)) < Int.toNat (Prod.fst (Prod.snd x)) else (2 : Int) ≠ (0 : Int) ∧ ∃ (y : Int × Int × Int), (IntKind.wrap IntKind.i64 ((2 : Int) * Prod.fst x) = Prod.fst y ∧ IntKind.wrap IntKind.i64 (Int.tdiv (Prod.fst (Prod.snd x)) (2
  : Int)) = Prod.fst (Prod.snd y) ∧ ixor IntKind.i64 (Prod.snd (Prod.snd x)) (Prod.fst x) = Prod.snd (Prod.snd y)) ∧ (((0 : Int) ≤ Prod.fst y ∧ Prod.fst y < (128 : Int)) ∧ ((0 : Int) ≤ Prod.fst (Prod.snd y) ∧ Prod.fst
  (Prod.snd y) < (128 : Int)) ∧ ((0 : Int) ≤ Prod.snd (Prod.snd y) ∧ Prod.snd (Prod.snd y) < (128 : Int)) ∧ toE (Prod.snd (Prod.snd y)) ^^^ ml (toE (Prod.fst y)) (toE (Prod.fst (Prod.snd y))) = ml (toE a) (toE b)) ∧
  Int.toNat (Prod.fst (Prod.snd y)) < Int.toNat (Prod.fst (Prod.snd x)) else bif decide ((128 : Int) ≤ IntKind.wrap IntKind.i64 ((2 : Int) * Prod.fst x)) then (2 : Int) ≠ (0 : Int) ∧ ∃ (y : Int × Int × Int), (ixor
  IntKind.i64 (IntKind.wrap IntKind.i64 ((2 : Int) * Prod.fst x)) (137 : Int) = Prod.fst y ∧ IntKind.wrap IntKind.i64 (Int.tdiv (Prod.fst (Prod.snd x)) (2 : Int)) = Prod.fst (Prod.snd y) ∧ Prod.snd (Prod.snd x) = Prod.snd
  (Prod.snd y)) ∧ (((0 : Int) ≤ Prod.fst y ∧ Prod.fst y < (128 : Int)) ∧ ((0 : Int) ≤ Prod.fst (Prod.snd y) ∧ Prod.fst (Prod.snd y) < (128 : Int)) ∧ ((0 : Int) ≤ Prod.snd (Prod.snd y) ∧ Prod.snd (Prod.snd y) < (128 : Int))
  ∧ toE (Prod.snd (Prod.snd y)) ^^^ ml (toE (Prod.fst y)) (toE (Prod.fst (Prod.snd y))) = ml (toE a) (toE b)) ∧ Int.toNat (Prod.fst (Prod.snd y)) < Int.toNat (Prod.fst (Prod.snd x)) else (2 : Int) ≠ (0 : Int) ∧ ∃ (y : Int ×
  Int × Int), (IntKind.wrap IntKind.i64 ((2 : Int) * Prod.fst x) = Prod.fst y ∧ IntKind.wrap IntKind.i64 (Int.tdiv (Prod.fst (Prod.snd x)) (2 : Int)) = Prod.fst (Prod.snd y) ∧ Prod.snd (Prod.snd x) = Prod.snd (Prod.snd y))
  ∧ (((0 : Int) ≤ Prod.fst y ∧ Prod.fst y < (128 : Int)) ∧ ((0 : Int) ≤ Prod.fst (Prod.snd y) ∧ Prod.fst (Prod.snd y) < (128 : Int)) ∧ ((0 : Int) ≤ Prod.snd (Prod.snd y) ∧ Prod.snd (Prod.snd y) < (128 : Int)) ∧ toE
  (Prod.snd (Prod.snd y)) ^^^ ml (toE (Prod.fst y)) (toE (Prod.fst (Prod.snd y))) = ml (toE a) (toE b)) ∧ Int.toNat (Prod.fst (Prod.snd y)) < Int.toNat (Prod.fst (Prod.snd x)) else Prod.snd (Prod.snd x) = mlI a b
theorem vc136 (a b : Int) : P136 a b = vcFun C136 (ann136 a b) Go.Proofs.Tryd.f101 [⟨.int .i64, a⟩, ⟨.int .i64, b⟩] [] (out136 a b) := by kernel_rfl

noncomputable def C134 : Ctx := ⟨Go.Proofs.Tryd.prog, D, G136, (fun _ _ => none), fun _ => []⟩
def ann134 (a n : Int) : Nat → St → Option Ann := fun _ _ => some ⟨Nat, [0, 1], [], fun i => [(6, .v (.int .i64) (i : Int)), (5, .v (.int .i64) (powTo a i))], fun _ => [], fun i => i ≤ n.toNat, fun i => n.toNat - i⟩
def out134 (a n : Int) : COut := ⟨[n ≤ 1000000], .v (.int .i64) (powTo a n.toNat), [], []⟩
def sp134 : Spec := fun args ins => match args, ins with
  | [⟨.int .i64, a⟩, ⟨.int .i64, n⟩], [] => some (out134 a n)
  | _, _ => none
def G134 := addG G136 99 sp134
def P134 (a n : Int) : Prop :=
  ∃ (x : Nat), ((a = a ∧ n = n ∧ (1 : Int) = powTo a x ∧ (0 : Int) = (↑x : Int)) ∧ x ≤ Int.toNat n) ∧ ∀ (x : Nat), x ≤ Int.toNat n → IntKind.min IntKind.i64 ≤ (↑x : Int) ∧ (↑x : Int) ≤ IntKind.max IntKind.i64 ∧ IntKind.min
  IntKind.i64 ≤ powTo a x ∧ powTo a x ≤ IntKind.max IntKind.i64 → bif decide ((↑x : Int) < n) then ∃ (y : Nat), (a = a ∧ n = n ∧ mlI (powTo a x) a = powTo a y ∧ IntKind.wrap IntKind.i64 ((↑x : Int) + (1 : Int)) = (↑y :
  Int)) ∧ y ≤ Int.toNat n ∧ Int.toNat n - y < Int.toNat n - x else powTo a x = powTo a (Int.toNat n)
theorem vc134 (a n : Int) : P134 a n = vcFun C134 (ann134 a n) Go.Proofs.Tryd.f99 [⟨.int .i64, a⟩, ⟨.int .i64, n⟩] [] (out134 a n) := by kernel_rfl

noncomputable def C143 : Ctx := ⟨Go.Proofs.Tryd.prog, D, G134, (fun _ _ => none), fun _ => []⟩
def ann143 (_n _b : Int) : Nat → St → Option Ann := fun _ _ => none
def out143 (n b : Int) : COut := ⟨[0 < b ∧ b ≤ 1000000], .v (.int .i64) (n % b), [], []⟩
def sp143 : Spec := fun args ins => match args, ins with
  | [⟨.int .i64, n⟩, ⟨.int .i64, b⟩], [] => some (out143 n b)
  | _, _ => none
def G143 := addG G134 130 sp143
def P143 (n b : Int) : Prop :=
  (b ≠ (0 : Int) ∧ b ≠ (0 : Int)) ∧ Int.tmod (IntKind.wrap IntKind.i64 (Int.tmod n b + b)) b = n % b
theorem vc143 (n b : Int) : P143 n b = vcFun C143 (ann143 n b) Go.Proofs.Tryd.f130 [⟨.int .i64, n⟩, ⟨.int .i64, b⟩] [] (out143 n b) := by kernel_rfl

noncomputable def C113 : Ctx := ⟨Go.Proofs.Tryd.prog, D, G143, (fun _ _ => none), fun _ => []⟩
def ann113  : Nat → St → Option Ann := fun _ _ => some ⟨Nat, [1], [], fun i => [(2, .v (.int .i64) (ofE (ex i))), (6, .v (.int .i64) (i : Int))], fun i => [(0, some ⟨false, true, (.cons (.arr 127 (.int .i64)) (.last (.arr 128 (.int .i64)))), [(expT.take i ++ (List.replicate 127 0).drop i, logTo i)]⟩)], fun i => i ≤ 127, fun i => 127 - i⟩
def out113  : COut := ⟨[], .v (.ref .ptr) (.ptr 0 (.cons (.arr 127 (.int .i64)) (.last (.arr 128 (.int .i64)))) [0]), [], [⟨false, true, (.cons (.arr 127 (.int .i64)) (.last (.arr 128 (.int .i64)))), [fieldT]⟩]⟩
def sp113 : Spec := fun args ins => match args, ins with
  | [], [] => some out113
  | _, _ => none
def G113 := addG G143 112 sp113
def P113  : Prop :=
  ∃ (x : Nat), (((0 : Nat) = (0 : Nat) ∧ (1 : Int) = ofE (ex x) ∧ (0 : Int) = (↑x : Int) ∧ List.replicate (127 : Nat) (0 : Int) = List.take x expT ++ List.drop x (List.replicate (127 : Nat) (0 : Int)) ∧ List.replicate (128
  : Nat) (0 : Int) = logTo x ∧ false = false) ∧ x ≤ (127 : Nat)) ∧ ∀ (x : Nat), x ≤ (127 : Nat) → (IntKind.min IntKind.i64 ≤ ofE (ex x) ∧ ofE (ex x) ≤ IntKind.max IntKind.i64 ∧ IntKind.min IntKind.i64 ≤ (↑x : Int) ∧ (↑x :
  Int) ≤ IntKind.max IntKind.i64 ∧ ∀ (y : List Int × List Int), List.Mem y [(List.take x expT ++ List.drop x (List.replicate (127 : Nat) (0 : Int)), logTo x)] → List.length (Prod.fst y) = (127 : Nat) ∧ (∀ (y_1 : Int),
  List.Mem y_1 (Prod.fst y) → IntKind.min IntKind.i64 ≤ y_1 ∧ y_1 ≤ IntKind.max IntKind.i64) ∧ List.length (Prod.snd y) = (128 : Nat) ∧ ∀ (y_1 : Int), List.Mem y_1 (Prod.snd y) → IntKind.min IntKind.i64 ≤ y_1 ∧ y_1 ≤
  IntKind.max IntKind.i64) → bif decide ((↑x : Int) < (127 : Int)) then (((0 : Int) ≤ (↑x : Int) ∧ (↑x : Int) < (↑(127 : Nat) : Int)) ∧ Int.toNat (↑x : Int) < (127 : Nat) ∧ ((0 : Int) ≤ ofE (ex x) ∧ ofE (ex x) < (↑(128 :
  Nat) : Int)) ∧ Int.toNat (ofE (ex x)) < (128 : Nat)) ∧ bif decide ((128 : Int) ≤ IntKind.wrap IntKind.i64 (ofE (ex x) * (2 : Int))) then ∃ (y : Nat), ((0 : Nat) = (0 : Nat) ∧ ixor IntKind.i64 (IntKind.wrap IntKind.i64
  (ofE (ex x) * (2 : Int))) (137 : Int) = ofE (ex y) ∧ IntKind.wrap IntKind.i64 ((↑x : Int) + (1 : Int)) = (↑y : Int) ∧ List.set (List.take x expT ++ List.drop x (List.replicate (127 : Nat) (0 : Int))) (Int.toNat (↑x :
  Int)) (ofE (ex x)) = List.take y expT ++ List.drop y (List.replicate (127 : Nat) (0 : Int)) ∧ List.set (logTo x) (Int.toNat (ofE (ex x))) (↑x : Int) = logTo y ∧ false = false) ∧ y ≤ (127 : Nat) ∧ (127 : Nat) - y < (127 :
  Nat) - x else ∃ (y : Nat), ((0 : Nat) = (0 : Nat) ∧ IntKind.wrap IntKind.i64 (ofE (ex x) * (2 : Int)) = ofE (ex y) ∧ IntKind.wrap IntKind.i64 ((↑x : Int) + (1 : Int)) = (↑y : Int) ∧ List.set (List.take x expT ++ List.drop
  x (List.replicate (127 : Nat) (0 : Int))) (Int.toNat (↑x : Int)) (ofE (ex x)) = List.take y expT ++ List.drop y (List.replicate (127 : Nat) (0 : Int)) ∧ List.set (logTo x) (Int.toNat (ofE (ex x))) (↑x : Int) = logTo y ∧
  false = false) ∧ y ≤ (127 : Nat) ∧ (127 : Nat) - y < (127 : Nat) - x else (((0 : Int) ≤ (0 : Int) ∧ (0 : Int) < (↑(128 : Nat) : Int)) ∧ (0 : Nat) < (128 : Nat)) ∧ (0 : Nat) = (0 : Nat) ∧ List.take x expT ++ List.drop x
  (List.replicate (127 : Nat) (0 : Int)) = Prod.fst fieldT ∧ (-1 : Int) :: List.map (fun (a : Nat) => if toE (↑a : Int) ≠ (0 : BitVec (7 : Nat)) ∧ lgN (toE (↑a : Int)) < x then (↑(lgN (toE (↑a : Int))) : Int) else (0 :
  Int)) [nat_lit 1, nat_lit 2, nat_lit 3, nat_lit 4, nat_lit 5, nat_lit 6, nat_lit 7, nat_lit 8, nat_lit 9, nat_lit 10, nat_lit 11, nat_lit 12, nat_lit 13, nat_lit 14, nat_lit 15, nat_lit 16, nat_lit 17, nat_lit 18, nat_lit
  19, nat_lit 20, nat_lit 21, nat_lit 22, nat_lit 23, nat_lit 24, nat_lit 25, nat_lit 26, nat_lit 27, nat_lit 28, nat_lit 29, nat_lit 30, nat_lit 31, nat_lit 32, nat_lit 33, nat_lit 34, nat_lit 35, nat_lit 36, nat_lit 37,
  nat_lit 38, nat_lit 39, nat_lit 40, nat_lit 41, nat_lit 42, nat_lit 43, nat_lit 44, nat_lit 45, nat_lit 46, nat_lit 47, nat_lit 48, nat_lit 49, nat_lit 50, nat_lit 51, nat_lit 52, nat_lit 53, nat_lit 54, nat_lit 55,
  nat_lit 56, nat_lit 57, nat_lit 58, nat_lit 59, nat_lit 60, nat_lit 61, nat_lit 62, nat_lit 63, nat_lit 64, nat_lit 65, nat_lit 66, nat_lit 67, nat_lit 68, nat_lit 69, nat_lit 70, nat_lit 71, nat_lit 72, nat_lit 73,
  nat_lit 74, nat_lit 75, nat_lit 76, nat_lit 77, nat_lit 78, nat_lit 79, nat_lit 80, nat_lit 81, nat_lit 82, nat_lit 83, nat_lit 84, nat_lit 85, nat_lit 86, nat_lit 87, nat_lit 88, nat_lit 89, nat_lit 90, nat_lit 91,
  nat_lit 92, nat_lit 93, nat_lit 94, nat_lit 95, nat_lit 96, nat_lit 97, nat_lit 98, nat_lit 99, nat_lit 100, nat_lit 101, nat_lit 102, nat_lit 103, nat_lit 104, nat_lit 105, nat_lit 106, nat_lit 107, nat_lit 108, nat_lit
  109, nat_lit 110, nat_lit 111, nat_lit 112, nat_lit 113, nat_lit 114, nat_lit 115, nat_lit 116, nat_lit 117, nat_lit 118, nat_lit 119, nat_lit 120, nat_lit 121, nat_lit 122, nat_lit 123, nat_lit 124, nat_lit 125, nat_lit
  126, nat_lit 127] = Prod.snd fieldT ∧ false = false
theorem vc113 : P113  = vcFun C113 (ann113 ) Go.Proofs.Tryd.f112 [] [] out113 := by kernel_rfl

noncomputable def C116 : Ctx := ⟨Go.Proofs.Tryd.prog, D, G113, (fun _ _ => none), fun _ => []⟩
def ann116 (_n : Int) (_t : FT.I) : Nat → St → Option Ann := fun _ _ => none
def out116 (n : Int) (t : FT.I) : COut := ⟨[t = fieldT], .v (.int .i64) (xpI n), [], []⟩
def sp116 : Spec := fun args ins => match args, ins with
  | [⟨.ref .ptr, .ptr 0 (.cons (.arr 127 (.int .i64)) (.last (.arr 128 (.int .i64)))) [0]⟩, ⟨.int .i64, n⟩], [⟨false, true, (.cons (.arr 127 (.int .i64)) (.last (.arr 128 (.int .i64)))), [t]⟩] => some (out116 n t)
  | _, _ => none
def G116 := addG G113 113 sp116
def P116 (n : Int) (t : List Int × List Int) : Prop :=
  (((0 : Int) < (127 : Int) ∧ (127 : Int) ≤ (1000000 : Int)) ∧ ((0 : Int) ≤ n % (127 : Int) ∧ n % (127 : Int) < (↑(127 : Nat) : Int)) ∧ Int.toNat (n % (127 : Int)) < (127 : Nat)) ∧ List.getD (Prod.fst t) (Int.toNat (n %
  (127 : Int))) (0 : Int) = xpI n ∧ Prod.fst t = Prod.fst t ∧ Prod.snd t = Prod.snd t ∧ false = false
theorem vc116 (n : Int) (t : FT.I) : P116 n t = vcFun C116 (ann116 n t) Go.Proofs.Tryd.f113 [⟨.ref .ptr, .ptr 0 (.cons (.arr 127 (.int .i64)) (.last (.arr 128 (.int .i64)))) [0]⟩, ⟨.int .i64, n⟩] [⟨false, true, (.cons (.arr 127 (.int .i64)) (.last (.arr 128 (.int .i64)))), [t]⟩] (out116 n t) := by kernel_rfl

noncomputable def C156 : Ctx := ⟨Go.Proofs.Tryd.prog, D, G116, (fun _ _ => none), fun _ => []⟩
def ann156 (_a : Int) (_t : FT.I) : Nat → St → Option Ann := fun _ _ => none
def out156 (a : Int) (t : FT.I) : COut := ⟨[t = fieldT], .v (.int .i64) (lgI a), [], []⟩
def sp156 : Spec := fun args ins => match args, ins with
  | [⟨.ref .ptr, .ptr 0 (.cons (.arr 127 (.int .i64)) (.last (.arr 128 (.int .i64)))) [0]⟩, ⟨.int .i64, a⟩], [⟨false, true, (.cons (.arr 127 (.int .i64)) (.last (.arr 128 (.int .i64)))), [t]⟩] => some (out156 a t)
  | _, _ => none
def G156 := addG G116 135 sp156
def P156 (a : Int) (t : List Int × List Int) : Prop :=
  (((0 : Int) < (128 : Int) ∧ (128 : Int) ≤ (1000000 : Int)) ∧ ((0 : Int) ≤ a % (128 : Int) ∧ a % (128 : Int) < (↑(128 : Nat) : Int)) ∧ Int.toNat (a % (128 : Int)) < (128 : Nat)) ∧ List.getD (Prod.snd t) (Int.toNat (a %
  (128 : Int))) (0 : Int) = lgI a ∧ Prod.fst t = Prod.fst t ∧ Prod.snd t = Prod.snd t ∧ false = false
theorem vc156 (a : Int) (t : FT.I) : P156 a t = vcFun C156 (ann156 a t) Go.Proofs.Tryd.f135 [⟨.ref .ptr, .ptr 0 (.cons (.arr 127 (.int .i64)) (.last (.arr 128 (.int .i64)))) [0]⟩, ⟨.int .i64, a⟩] [⟨false, true, (.cons (.arr 127 (.int .i64)) (.last (.arr 128 (.int .i64)))), [t]⟩] (out156 a t) := by kernel_rfl

noncomputable def C137 : Ctx := ⟨Go.Proofs.Tryd.prog, D, G156, (fun _ _ => none), fun _ => []⟩
def ann137 (_a _b : Int) (_t : FT.I) : Nat → St → Option Ann := fun _ _ => none
def out137 (a b : Int) (t : FT.I) : COut := ⟨[t = fieldT], .v (.int .i64) (mlI a b), [], []⟩
def sp137 : Spec := fun args ins => match args, ins with
  | [⟨.ref .ptr, .ptr 0 (.cons (.arr 127 (.int .i64)) (.last (.arr 128 (.int .i64)))) [0]⟩, ⟨.int .i64, a⟩, ⟨.int .i64, b⟩], [⟨false, true, (.cons (.arr 127 (.int .i64)) (.last (.arr 128 (.int .i64)))), [t]⟩] => some (out137 a b t)
  | _, _ => none
def G137 := addG G156 121 sp137
def P137 (a b : Int) (t : List Int × List Int) : Prop :=
  (t = fieldT ∧ t = fieldT) ∧ ∀ (b_1 : Bool), decide (lgI a < (0 : Int)) = b_1 → (((!b_1) = true → (!b_1) = true) ∧ (b_1 = false → (!b_1) = true)) ∧ bif bif b_1 then true else decide (lgI b < (0 : Int)) then (0 : Int) = mlI
  a b ∧ Prod.fst t = Prod.fst t ∧ Prod.snd t = Prod.snd t ∧ false = false else t = fieldT ∧ xpI (IntKind.wrap IntKind.i64 (lgI a + lgI b)) = mlI a b ∧ Prod.fst t = Prod.fst t ∧ Prod.snd t = Prod.snd t ∧ false = false
theorem vc137 (a b : Int) (t : FT.I) : P137 a b t = vcFun C137 (ann137 a b t) Go.Proofs.Tryd.f121 [⟨.ref .ptr, .ptr 0 (.cons (.arr 127 (.int .i64)) (.last (.arr 128 (.int .i64)))) [0]⟩, ⟨.int .i64, a⟩, ⟨.int .i64, b⟩] [⟨false, true, (.cons (.arr 127 (.int .i64)) (.last (.arr 128 (.int .i64)))), [t]⟩] (out137 a b t) := by kernel_rfl

noncomputable def C142 : Ctx := ⟨Go.Proofs.Tryd.prog, D, G137, (fun _ _ => none), fun _ => []⟩
def ann142 (_a : Int) (_t : FT.I) : Nat → St → Option Ann := fun _ _ => none
def out142 (a : Int) (t : FT.I) : COut := ⟨[t = fieldT], .v (.int .i64) (invI a), [], []⟩
def sp142 : Spec := fun args ins => match args, ins with
  | [⟨.ref .ptr, .ptr 0 (.cons (.arr 127 (.int .i64)) (.last (.arr 128 (.int .i64)))) [0]⟩, ⟨.int .i64, a⟩], [⟨false, true, (.cons (.arr 127 (.int .i64)) (.last (.arr 128 (.int .i64)))), [t]⟩] => some (out142 a t)
  | _, _ => none
def G142 := addG G137 134 sp142
def P142 (a : Int) (t : List Int × List Int) : Prop :=
  t = fieldT ∧ bif decide (lgI a < (0 : Int)) then (0 : Int) = invI a ∧ Prod.fst t = Prod.fst t ∧ Prod.snd t = Prod.snd t ∧ false = false else t = fieldT ∧ xpI (IntKind.wrap IntKind.i64 ((0 : Int) - lgI a)) = invI a ∧
  Prod.fst t = Prod.fst t ∧ Prod.snd t = Prod.snd t ∧ false = false
theorem vc142 (a : Int) (t : FT.I) : P142 a t = vcFun C142 (ann142 a t) Go.Proofs.Tryd.f134 [⟨.ref .ptr, .ptr 0 (.cons (.arr 127 (.int .i64)) (.last (.arr 128 (.int .i64)))) [0]⟩, ⟨.int .i64, a⟩] [⟨false, true, (.cons (.arr 127 (.int .i64)) (.last (.arr 128 (.int .i64)))), [t]⟩] (out142 a t) := by kernel_rfl

noncomputable def C115 : Ctx := ⟨Go.Proofs.Tryd.prog, D, G142, (fun _ _ => none), fun _ => []⟩
def ann115 (_r1 : Bool) (p : List Int) (x : Int) (_t : FT.I) (n : Nat) : Nat → St → Option Ann := fun _ _ => some ⟨Nat, [0, 1, 2], [0, 1], fun i => [(8, .v (.int .i64) ((n : Int) - 1 - (i : Int))), (7, .v (.int .i64) (evI (p.drop (n - i)) x))], fun _ => [], fun i => i ≤ n, fun i => n - i⟩
def out115 (_r1 : Bool) (p : List Int) (x : Int) (t : FT.I) (n : Nat) : COut := ⟨[t = fieldT ∧ n = p.length ∧ n ≤ 1000000], .v (.int .i64) (evI p x), [], []⟩
def sp115 : Spec := fun args ins => match args, ins with
  | [⟨.ref .ptr, .ptr 0 (.cons (.arr 127 (.int .i64)) (.last (.arr 128 (.int .i64)))) [0]⟩, ⟨.ref .slice, .slice 1 (.int .i64) [] 0 n⟩, ⟨.int .i64, x⟩], [⟨false, true, (.cons (.arr 127 (.int .i64)) (.last (.arr 128 (.int .i64)))), [t]⟩, ⟨r1, false, .int .i64, p⟩] => some (out115 r1 p x t n)
  | _, _ => none
def G115 := addG G142 116 sp115
def P115 (r1 : Bool) (p : List Int) (x : Int) (t : List Int × List Int) (n : Nat) : Prop :=
  ∃ (x_1 : Nat), (((0 : Nat) = (0 : Nat) ∧ (0 : Nat) = (0 : Nat) ∧ n = n ∧ x = x ∧ (0 : Int) = evI (List.drop (n - x_1) p) x ∧ IntKind.wrap IntKind.i64 ((↑n : Int) - (1 : Int)) = (↑n : Int) - (1 : Int) - (↑x_1 : Int) ∧
  Prod.fst t = Prod.fst t ∧ Prod.snd t = Prod.snd t ∧ false = false ∧ p = p ∧ r1 = r1) ∧ x_1 ≤ n) ∧ ∀ (x_2 : Nat), x_2 ≤ n → IntKind.min IntKind.i64 ≤ (↑n : Int) - (1 : Int) - (↑x_2 : Int) ∧ (↑n : Int) - (1 : Int) - (↑x_2 :
  Int) ≤ IntKind.max IntKind.i64 ∧ IntKind.min IntKind.i64 ≤ evI (List.drop (n - x_2) p) x ∧ evI (List.drop (n - x_2) p) x ≤ IntKind.max IntKind.i64 → bif decide ((0 : Int) ≤ (↑n : Int) - (1 : Int) - (↑x_2 : Int)) then (t =
  fieldT ∧ ((0 : Int) ≤ (↑n : Int) - (1 : Int) - (↑x_2 : Int) ∧ (↑n : Int) - (1 : Int) - (↑x_2 : Int) < (↑n : Int)) ∧ (0 : Nat) + Int.toNat ((↑n : Int) - (1 : Int) - (↑x_2 : Int)) < List.length p ∧ t = fieldT) ∧ ∃ (y :
  Nat), ((0 : Nat) = (0 : Nat) ∧ (0 : Nat) = (0 : Nat) ∧ n = n ∧ x = x ∧ ixor IntKind.i64 (mlI (evI (List.drop (n - x_2) p) x) x) (mlI (List.getD p ((0 : Nat) + Int.toNat ((↑n : Int) - (1 : Int) - (↑x_2 : Int))) (0 : Int))
  (1 : Int)) = evI (List.drop (n - y) p) x ∧ IntKind.wrap IntKind.i64 ((↑n : Int) - (1 : Int) - (↑x_2 : Int) - (1 : Int)) = (↑n : Int) - (1 : Int) - (↑y : Int) ∧ Prod.fst t = Prod.fst t ∧ Prod.snd t = Prod.snd t ∧ false =
  false ∧ p = p ∧ r1 = r1) ∧ y ≤ n ∧ n - y < n - x_2 else evI (List.drop (n - x_2) p) x = evI p x ∧ Prod.fst t = Prod.fst t ∧ Prod.snd t = Prod.snd t ∧ false = false ∧ p = p ∧ r1 = r1
theorem vc115 (r1 : Bool) (p : List Int) (x : Int) (t : FT.I) (n : Nat) : P115 r1 p x t n = vcFun C115 (ann115 r1 p x t n) Go.Proofs.Tryd.f116 [⟨.ref .ptr, .ptr 0 (.cons (.arr 127 (.int .i64)) (.last (.arr 128 (.int .i64)))) [0]⟩, ⟨.ref .slice, .slice 1 (.int .i64) [] 0 n⟩, ⟨.int .i64, x⟩] [⟨false, true, (.cons (.arr 127 (.int .i64)) (.last (.arr 128 (.int .i64)))), [t]⟩, ⟨r1, false, .int .i64, p⟩] (out115 r1 p x t n) := by kernel_rfl

end Go.SL.A

/- The field of 128 elements, as numbers. -/
namespace Go.SL.A
open Go Go.SL Go.SL.S

theorem ofE_fit (e : E) : 0 ≤ ofE e ∧ ofE e < 128 := by
  have := e.isLt
  unfold ofE; omega
theorem toE_ofE (e : E) : toE (ofE e) = e := by
  unfold toE ofE
  rw [BitVec.ofInt_natCast, BitVec.ofNat_toNat, BitVec.setWidth_eq]
theorem toE_toNat (a : Int) : (toE a).toNat = (a % 128).toNat := by
  unfold toE; rw [BitVec.toNat_ofInt]; rfl
theorem ofE_toE {a : Int} (h : 0 ≤ a ∧ a < 128) : ofE (toE a) = a := by
  unfold ofE; rw [toE_toNat]; omega
theorem toE_mod (a : Int) : toE (a % 128) = toE a := by
  apply BitVec.eq_of_toNat_eq; rw [toE_toNat, toE_toNat]; omega
theorem ixor_nat {a b : Nat} (ha : a < 256) (hb : b < 256) : ixor .i64 (a : Int) (b : Int) = ((a ^^^ b : Nat) : Int) := by
  unfold ixor
  have h1 : (BitVec.ofInt IntKind.i64.bits (a : Int) ^^^ BitVec.ofInt IntKind.i64.bits (b : Int)).toNat = a ^^^ b := by
    rw [BitVec.toNat_xor, BitVec.ofInt_natCast, BitVec.ofInt_natCast, BitVec.toNat_ofNat, BitVec.toNat_ofNat]
    have e : (2 : Nat) ^ IntKind.i64.bits = 18446744073709551616 := by decide
    rw [e, Nat.mod_eq_of_lt (by omega), Nat.mod_eq_of_lt (by omega)]
  rw [h1]
  have : a ^^^ b < 2 ^ 8 := Nat.xor_lt_two_pow ha hb
  rw [w64 (by omega) (by omega)]
theorem ixor_ofE (x y : E) : ixor .i64 (ofE x) (ofE y) = ofE (x ^^^ y) := by
  unfold ofE
  have h1 := x.isLt
  have h2 := y.isLt
  rw [ixor_nat (by omega) (by omega), BitVec.toNat_xor]
theorem xt_num {a : Nat} (h : a < 128) : (if 128 ≤ 2 * a then (2 * a) ^^^ 137 else 2 * a) = (xt (BitVec.ofNat 7 a)).toNat := by
  have : ((List.range 128).all fun a => decide ((if 128 ≤ 2 * a then (2 * a) ^^^ 137 else 2 * a) = (xt (BitVec.ofNat 7 a)).toNat)) = true := by decide +kernel
  have := List.all_eq_true.1 this a (List.mem_range.2 h)
  exact of_decide_eq_true this
/-- Doubling. -/
theorem dbl {a : Int} (h : 0 ≤ a ∧ a < 128) : (128 ≤ 2 * a → ixor .i64 (2 * a) 137 = ofE (xt (toE a))) ∧ (¬ 128 ≤ 2 * a → 2 * a = ofE (xt (toE a))) := by
  obtain ⟨n, rfl⟩ : ∃ n : Nat, a = n := ⟨a.toNat, by omega⟩
  have hn := xt_num (a := n) (by omega)
  have ht : toE (n : Int) = BitVec.ofNat 7 n := by unfold toE; rw [BitVec.ofInt_natCast]
  rw [ht]
  unfold ofE
  rw [← hn]
  constructor
  · intro hh
    rw [if_pos (by omega)]
    have := ixor_nat (a := 2 * n) (b := 137) (by omega) (by omega)
    rw [← this]; rfl
  · intro hh
    rw [if_neg (by omega)]; omega

theorem pure155 (a : Int) : P155 a := by
  unfold P155
  have d := tdm a (k := 128) (by decide)
  have hm : (128 : Int) ≠ 0 := by decide
  refine ⟨hm, ?_⟩
  by_cases h : a.tmod 128 < 0
  · simp only [h, decide_true, cond_true]
    rw [w64 (by omega) (by omega)]; omega
  · simp only [h, decide_false, cond_false]; omega

theorem toE_zero : toE 0 = 0 := rfl
theorem mlI_fit (a b : Int) : 0 ≤ mlI a b ∧ mlI a b < 128 := ofE_fit _

theorem half {b : Int} (h : 0 ≤ b ∧ b < 128) : toE b = xt (toE (b / 2)) ^^^ (if b % 2 = 1 then 1 else 0) := by
  obtain ⟨n, rfl⟩ : ∃ n : Nat, b = n := ⟨b.toNat, by omega⟩
  have : ((List.range 128).all fun b : Nat => decide (toE (b : Int) = xt (toE ((b : Int) / 2)) ^^^ (if (b : Int) % 2 = 1 then 1 else 0))) = true := by decide +kernel
  have := List.all_eq_true.1 this n (List.mem_range.2 (by omega))
  exact of_decide_eq_true this
theorem ml_xt (a b : E) : ml (xt a) b = ml a (xt b) := by
  have h : ∀ x : E, xt x = ml (ex 1) x := fun x => by rw [ml_ex]; rfl
  rw [h, h, ml_assoc, ml_left]

theorem mul_step {a b o : Int} (ha : 0 ≤ a ∧ a < 128) (hb : 0 ≤ b ∧ b < 128) (ho : 0 ≤ o ∧ o < 128) :
    (b % 2 = 1 → toE (ixor .i64 o a) ^^^ ml (xt (toE a)) (toE (b / 2)) = toE o ^^^ ml (toE a) (toE b) ∧ 0 ≤ ixor .i64 o a ∧ ixor .i64 o a < 128) ∧ (b % 2 ≠ 1 → toE o ^^^ ml (xt (toE a)) (toE (b / 2)) = toE o ^^^ ml (toE a) (toE b)) := by
  have hh := half hb
  constructor
  · intro h1
    rw [if_pos h1] at hh
    have e : ixor .i64 o a = ofE (toE o ^^^ toE a) := by
      have := ixor_ofE (toE o) (toE a)
      rw [ofE_toE ho, ofE_toE ha] at this; exact this
    have := ofE_fit (toE o ^^^ toE a)
    refine ⟨?_, by omega, by omega⟩
    rw [e, toE_ofE, hh, ml_xor, ml_xt, ml_comm (toE a) 1, ml_one, BitVec.xor_assoc, BitVec.xor_comm (toE a)]
  · intro h1
    rw [if_neg h1] at hh
    rw [hh, xz, ml_xt]

theorem pure136 (a b : Int) : P136 a b := by
  unfold P136
  have ha := Int.emod_nonneg a (b := 128) (by decide)
  have ha2 := Int.emod_lt_of_pos a (b := 128) (by decide)
  have hb := Int.emod_nonneg b (b := 128) (by decide)
  have hb2 := Int.emod_lt_of_pos b (b := 128) (by decide)
  refine ⟨(a % 128, b % 128, 0), ⟨⟨rfl, rfl, rfl⟩, ⟨ha, ha2⟩, ⟨hb, hb2⟩, ⟨Int.le_refl 0, (by decide : (0 : Int) < 128)⟩, ?_⟩, ?_⟩
  · simp only [toE_mod, toE_zero]; exact zx _
  rintro ⟨x, y, o⟩ ⟨hx, hy, ho, he⟩ -
  simp only at hx hy ho he ⊢
  by_cases h : 0 < y
  · simp only [h, decide_true, cond_true]
    have d := tdm y (k := 2) (by decide)
    have d1 : y.tmod 2 = y % 2 := by omega
    have d2 : y.tdiv 2 = y / 2 := by omega
    obtain ⟨m1, m2⟩ := mul_step hx hy ho
    obtain ⟨b1, b2⟩ := dbl hx
    have hf := ofE_fit (xt (toE x))
    rw [d1, d2, w64 (n := 2 * x) (by omega) (by omega), w64 (n := y / 2) (by omega) (by omega)]
    generalize hO : ixor .i64 o x = O at *
    have hne : (2 : Int) ≠ 0 := by decide
    have fin : ∀ X O : Int, X = ofE (xt (toE x)) → 0 ≤ O ∧ O < 128 → toE O ^^^ ml (xt (toE x)) (toE (y / 2)) = toE o ^^^ ml (toE x) (toE y) → (2 : Int) ≠ 0 ∧ ∃ s : Int × Int × Int, (X = s.1 ∧ y / 2 = s.2.1 ∧ O = s.2.2) ∧ ((0 ≤ s.1 ∧ s.1 < 128) ∧ (0 ≤ s.2.1 ∧ s.2.1 < 128) ∧ (0 ≤ s.2.2 ∧ s.2.2 < 128) ∧ toE s.2.2 ^^^ ml (toE s.1) (toE s.2.1) = ml (toE a) (toE b)) ∧ s.2.1.toNat < y.toNat := by
      rintro _ O rfl hO hm
      refine ⟨hne, (_, _, O), ⟨rfl, rfl, rfl⟩, ⟨hf, ⟨?_, ?_⟩, hO, ?_⟩, ?_⟩
      · show 0 ≤ y / 2; omega
      · show y / 2 < 128; omega
      · show toE O ^^^ ml (toE (ofE (xt (toE x)))) (toE (y / 2)) = _
        rw [toE_ofE, hm, he]
      · show (y / 2).toNat < y.toNat; omega
    refine ⟨hne, ?_⟩
    by_cases hb : y % 2 = 1
    · obtain ⟨m3, m4⟩ := m1 hb
      simp only [hb, decide_true, cond_true]
      by_cases hd : 128 ≤ 2 * x
      · simp only [hd, decide_true, cond_true]
        exact fin _ _ (b1 hd) m4 m3
      · simp only [hd, decide_false, cond_false]
        exact fin _ _ (b2 hd) m4 m3
    · simp only [hb, decide_false, cond_false]
      by_cases hd : 128 ≤ 2 * x
      · simp only [hd, decide_true, cond_true]
        exact fin _ _ (b1 hd) ho (m2 hb)
      · simp only [hd, decide_false, cond_false]
        exact fin _ _ (b2 hd) ho (m2 hb)
  · have : y = 0 := by omega
    subst this
    simp only [h, decide_false, cond_false]
    rw [toE_zero, ml_zero, xz] at he
    unfold mlI
    rw [← he, ofE_toE ho]

theorem pow_fit (a : Int) : ∀ n, 0 ≤ powTo a n ∧ powTo a n < 128
  | 0 => by simp [powTo]
  | n + 1 => mlI_fit _ _

theorem pure134 (a n : Int) (hn : n ≤ 1000000) : P134 a n := by
  unfold P134
  simp only [eq_self, true_and, and_true, Int.toNat_natCast]
  refine ⟨0, ⟨⟨rfl, rfl⟩, by omega⟩, fun i hi _ => ?_⟩
  by_cases h : (i : Int) < n
  · simp only [h, decide_true, cond_true]
    exact ⟨i + 1, ⟨rfl, step_i (by omega)⟩, by omega, by omega⟩
  · simp only [h, decide_false, cond_false]
    rw [show n.toNat = i by omega]

theorem pure143 (n b : Int) (hb : 0 < b ∧ b ≤ 1000000) : P143 n b := by
  unfold P143
  have d := tdm n (k := b) hb.1
  have e := Int.tmod_eq_emod (a := n) (b := b)
  have h1 := Int.emod_nonneg n (b := b) (by omega)
  have h2 := Int.emod_lt_of_pos n hb.1
  refine ⟨⟨by omega, by omega⟩, ?_⟩
  rw [w64 (by omega) (by omega), Int.tmod_eq_emod_of_nonneg (by omega)]
  rw [Int.add_emod_right]
  rw [Int.emod_eq_emod_iff_emod_sub_eq_zero]
  exact Int.emod_eq_zero_of_dvd ⟨-(n.tdiv b), by
    have := d.1
    have e2 : b * -(n.tdiv b) = -(n.tdiv b * b) := by rw [Int.mul_neg, Int.mul_comm]
    omega⟩

theorem expT_at {i : Nat} (h : i < 127) : expT[i]? = some (ofE (ex i)) := by
  unfold expT; rw [List.getElem?_map, List.getElem?_range h]; rfl
theorem expT_len : expT.length = 127 := by simp [expT]
theorem logT_at {i : Nat} (h : i < 128) : logT[i]? = some (lgI (i : Int)) := by
  unfold logT; rw [List.getElem?_map, List.getElem?_range h]; rfl
theorem logTo_end : List.set (logTo 127) 0 (-1) = logT := by decide +kernel
theorem logTo_at (i : Nat) {a : Nat} (h : a < 128) : (logTo i)[a]? = some (if toE (a : Int) ≠ 0 ∧ lgN (toE (a : Int)) < i then (lgN (toE (a : Int)) : Int) else 0) := by
  unfold logTo; rw [List.getElem?_map, List.getElem?_range h]; rfl
theorem logTo_len (i : Nat) : (logTo i).length = 128 := by simp [logTo]
theorem logTo_step {i : Nat} (h : i < 127) : List.set (logTo i) (ofE (ex i)).toNat (i : Int) = logTo (i + 1) := by
  refine List.ext_getElem? fun a => ?_
  have hf := ofE_fit (ex i)
  by_cases ha : a < 128
  · rw [List.getElem?_set, logTo_at i ha, logTo_at (i + 1) ha]
    by_cases e : (ofE (ex i)).toNat = a
    · have e2 : toE (a : Int) = ex i := by rw [← e, Int.toNat_of_nonneg hf.1, toE_ofE]
      rw [if_pos e, if_pos (by rw [logTo_len]; omega), e2, lg_ex h, if_pos ⟨ex_ne i, by omega⟩]
    · rw [if_neg e]
      congr 1
      by_cases hz : toE (a : Int) = 0
      · simp [hz]
      · have : lgN (toE (a : Int)) ≠ i := fun h2 => e (by
          have := ex_lg hz
          rw [h2] at this
          rw [this, ofE_toE (by omega)]; omega)
        have e3 : (lgN (toE (a : Int)) < i + 1) = (lgN (toE (a : Int)) < i) := propext ⟨fun _ => by omega, fun _ => by omega⟩
        simp only [e3]
  · rw [List.getElem?_eq_none (by rw [List.length_set, logTo_len]; omega), List.getElem?_eq_none (by rw [logTo_len]; omega)]

set_option maxRecDepth 100000 in
theorem pure113 : P113 := by
  unfold P113
  simp only [eq_self, true_and, and_true]
  have z1 : List.replicate 127 (0 : Int) = expT.take 0 ++ (List.replicate 127 0).drop 0 := rfl
  have z2 : List.replicate 128 (0 : Int) = logTo 0 := by decide +kernel
  refine ⟨0, ⟨⟨rfl, rfl, z1, z2⟩, Nat.zero_le _⟩, fun i hi _ => ?_⟩
  by_cases h : (i : Int) < 127
  · have hf := ofE_fit (ex i)
    obtain ⟨b1, b2⟩ := dbl hf
    rw [toE_ofE] at b1 b2
    simp only [h, decide_true, cond_true]
    rw [w64 (n := ofE (ex i) * 2) (by omega) (by omega), Int.mul_comm, logTo_step (by omega), Int.toNat_natCast]
    have hs : List.set (expT.take i ++ (List.replicate 127 (0 : Int)).drop i) i (ofE (ex i)) = expT.take (i + 1) ++ (List.replicate 127 0).drop (i + 1) :=
      set_step (by rw [expT_len]; omega) (by rw [List.length_replicate]; omega) (expT_at (by omega))
    rw [hs]
    refine ⟨⟨⟨by omega, by omega⟩, by omega, ⟨by omega, by omega⟩, by omega⟩, ?_⟩
    by_cases hd : 128 ≤ 2 * ofE (ex i)
    · simp only [hd, decide_true, cond_true]
      rw [b1 hd]
      exact ⟨i + 1, ⟨rfl, step_i (by omega), rfl, rfl⟩, by omega, by omega⟩
    · simp only [hd, decide_false, cond_false]
      exact ⟨i + 1, ⟨b2 hd, step_i (by omega), rfl, rfl⟩, by omega, by omega⟩
  · have : i = 127 := by omega
    subst this
    simp only [h, decide_false, cond_false]
    refine ⟨⟨⟨by omega, by omega⟩, by omega⟩, ?_, ?_⟩
    · rw [List.take_of_length_le (by rw [expT_len]; omega), List.drop_eq_nil_of_le (by rw [List.length_replicate]; omega), List.append_nil]; rfl
    · exact logTo_end

theorem pure116 (n : Int) (t : FT.I) (ht : t = fieldT) : P116 n t := by
  unfold P116
  simp only [eq_self, true_and, and_true]
  have h1 := Int.emod_nonneg n (b := 127) (by decide)
  have h2 := Int.emod_lt_of_pos n (b := 127) (by decide)
  refine ⟨⟨by omega, ⟨h1, by omega⟩, by omega⟩, ?_⟩
  subst ht
  show expT.getD _ 0 = _
  rw [List.getD_eq_getElem?_getD, expT_at (by omega)]; rfl

theorem lgI_mod (a : Int) : lgI (a % 128) = lgI a := by unfold lgI; rw [toE_mod]
theorem lgI_fit (a : Int) : -1 ≤ lgI a ∧ lgI a ≤ 126 := by
  unfold lgI
  split
  · omega
  · rename_i h; have := lg_fit h; omega

theorem pure156 (a : Int) (t : FT.I) (ht : t = fieldT) : P156 a t := by
  unfold P156
  simp only [eq_self, true_and, and_true]
  have h1 := Int.emod_nonneg a (b := 128) (by decide)
  have h2 := Int.emod_lt_of_pos a (b := 128) (by decide)
  refine ⟨⟨by omega, ⟨h1, by omega⟩, by omega⟩, ?_⟩
  subst ht
  show logT.getD _ 0 = _
  rw [List.getD_eq_getElem?_getD, logT_at (by omega), Int.toNat_of_nonneg h1, lgI_mod]; rfl

theorem pure137 (a b : Int) (t : FT.I) (ht : t = fieldT) : P137 a b t := by
  unfold P137
  simp only [eq_self, true_and, and_true]
  refine ⟨⟨ht, ht⟩, ?_⟩
  have fa := lgI_fit a
  have fb := lgI_fit b
  intro c hc
  refine ⟨by cases c <;> simp, ?_⟩
  by_cases ha : toE a = 0
  · have e : lgI a = -1 := by unfold lgI; rw [if_pos ha]
    have hc : c = true := by rw [← hc, e]; rfl
    subst hc
    simp only [cond_true]
    unfold mlI; rw [ha, zero_ml]; rfl
  · have e : lgI a = (lgN (toE a) : Int) := by unfold lgI; rw [if_neg ha]
    have hc : c = false := by rw [← hc, e]; exact decide_eq_false (by omega)
    subst hc
    simp only [cond_false]
    by_cases hb : toE b = 0
    · have e2 : lgI b = -1 := by unfold lgI; rw [if_pos hb]
      rw [e2]
      show 0 = _
      unfold mlI; rw [hb, ml_zero]; rfl
    · have e2 : lgI b = (lgN (toE b) : Int) := by unfold lgI; rw [if_neg hb]
      rw [w64 (by omega) (by omega)]
      have n2 : ¬ lgI b < 0 := by omega
      simp only [n2, decide_false, cond_false]
      refine ⟨ht, ?_⟩
      unfold mlI xpI
      have h3 := ml_exex (lgN (toE a)) (lgN (toE b))
      rw [ex_lg ha, ex_lg hb] at h3
      rw [h3, e, e2, show (((lgN (toE a) : Int) + (lgN (toE b) : Int)) % 127).toNat = (lgN (toE a) + lgN (toE b)) % 127 by omega, ex_mod]

theorem pure142 (a : Int) (t : FT.I) (ht : t = fieldT) : P142 a t := by
  unfold P142
  simp only [eq_self, true_and, and_true]
  refine ⟨ht, ?_⟩
  have fa := lgI_fit a
  by_cases ha : toE a = 0
  · have e : lgI a = -1 := by unfold lgI; rw [if_pos ha]
    rw [e]
    show 0 = _
    unfold invI; rw [if_pos ha]
  · have e : lgI a = (lgN (toE a) : Int) := by unfold lgI; rw [if_neg ha]
    have hl := lg_fit ha
    have n2 : ¬ lgI a < 0 := by omega
    simp only [n2, decide_false, cond_false]
    refine ⟨ht, ?_⟩
    rw [w64 (by omega) (by omega)]
    unfold invI xpI
    rw [if_neg ha, e]
    congr 2; omega

theorem evI_fit : ∀ (p : List Int) (x : Int), 0 ≤ evI p x ∧ evI p x < 128
  | [], _ => by simp [evI]
  | _ :: _, _ => ofE_fit _
theorem ml1 (a : E) : ml a 1 = a := by rw [ml_comm, ml_one]

theorem pure115 (r1 : Bool) (p : List Int) (x : Int) (t : FT.I) (n : Nat) (hp : t = fieldT ∧ n = p.length ∧ n ≤ 1000000) : P115 r1 p x t n := by
  obtain ⟨ht, hn, hn2⟩ := hp
  unfold P115
  simp only [eq_self, true_and, and_true]
  refine ⟨0, ⟨⟨?_, ?_⟩, by omega⟩, fun i hi _ => ?_⟩
  · rw [List.drop_eq_nil_of_le (by omega)]; rfl
  · rw [w64 (by omega) (by omega)]; omega
  by_cases h : 0 ≤ (n : Int) - 1 - (i : Int)
  · have e : ((n : Int) - 1 - (i : Int)).toNat = n - (i + 1) := by omega
    simp only [h, decide_true, cond_true]
    rw [e, Nat.zero_add]
    refine ⟨⟨ht, ⟨trivial, by omega⟩, by omega, ht⟩, i + 1, ⟨?_, by rw [w64 (by omega) (by omega)]; omega⟩, by omega, by omega⟩
    have hlt : n - (i + 1) < p.length := by omega
    have ed : p.drop (n - (i + 1)) = p.getD (n - (i + 1)) 0 :: p.drop (n - i) := by
      rw [List.drop_eq_getElem_cons hlt, show n - (i + 1) + 1 = n - i by omega, List.getD_eq_getElem?_getD, List.getElem?_eq_getElem hlt]; rfl
    rw [ed, evI]
    unfold mlI
    rw [ixor_ofE]
    congr 2
    exact ml1 _
  · have : i = n := by omega
    subst this
    simp only [h, decide_false, cond_false]
    rw [Nat.sub_self, List.drop_zero]
end Go.SL.A

/- Functions do what they are held to do. -/
namespace Go.SL.A
open Go Go.SL Go.SL.S
theorem snd155 : Sound Go.Proofs.Tryd.prog G155 := snd00.add ⟨_, Go.Proofs.Tryd.func125, by kernel_rfl, by kernel_rfl⟩ (by
  intro args ins out h hp
  unfold sp155 at h
  split at h
  · rename_i a
    cases h
    exact vcFun_ok (C := C155) good snd00 Meth.none mix Go.Proofs.Tryd.func125 (ann155 a) (fun hw => by rw [← vc155 a]; exact pure155 a)
  · cases h)

theorem snd136 : Sound Go.Proofs.Tryd.prog G136 := snd155.add ⟨_, Go.Proofs.Tryd.func101, by kernel_rfl, by kernel_rfl⟩ (by
  intro args ins out h hp
  unfold sp136 at h
  split at h
  · rename_i a b
    cases h
    exact vcFun_ok (C := C136) good snd155 Meth.none mix Go.Proofs.Tryd.func101 (ann136 a b) (fun hw => by rw [← vc136 a b]; exact pure136 a b)
  · cases h)

theorem snd134 : Sound Go.Proofs.Tryd.prog G134 := snd136.add ⟨_, Go.Proofs.Tryd.func99, by kernel_rfl, by kernel_rfl⟩ (by
  intro args ins out h hp
  unfold sp134 at h
  split at h
  · rename_i a n
    cases h
    exact vcFun_ok (C := C134) good snd136 Meth.none mix Go.Proofs.Tryd.func99 (ann134 a n) (fun hw => by rw [← vc134 a n]; exact pure134 a n hp)
  · cases h)

theorem snd143 : Sound Go.Proofs.Tryd.prog G143 := snd134.add ⟨_, Go.Proofs.Tryd.func130, by kernel_rfl, by kernel_rfl⟩ (by
  intro args ins out h hp
  unfold sp143 at h
  split at h
  · rename_i n b
    cases h
    exact vcFun_ok (C := C143) good snd134 Meth.none mix Go.Proofs.Tryd.func130 (ann143 n b) (fun hw => by rw [← vc143 n b]; exact pure143 n b hp)
  · cases h)

theorem snd113 : Sound Go.Proofs.Tryd.prog G113 := snd143.add ⟨_, Go.Proofs.Tryd.func112, by kernel_rfl, by kernel_rfl⟩ (by
  intro args ins out h hp
  unfold sp113 at h
  split at h
  · cases h
    exact vcFun_ok (C := C113) good snd143 Meth.none mix Go.Proofs.Tryd.func112 (ann113 ) (fun hw => by rw [← vc113 ]; exact pure113)
  · cases h)

theorem snd116 : Sound Go.Proofs.Tryd.prog G116 := snd113.add ⟨_, Go.Proofs.Tryd.func113, by kernel_rfl, by kernel_rfl⟩ (by
  intro args ins out h hp
  unfold sp116 at h
  split at h
  · rename_i n t
    cases h
    exact vcFun_ok (C := C116) good snd113 Meth.none mix Go.Proofs.Tryd.func113 (ann116 n t) (fun hw => by rw [← vc116 n t]; exact pure116 n t hp)
  · cases h)

theorem snd156 : Sound Go.Proofs.Tryd.prog G156 := snd116.add ⟨_, Go.Proofs.Tryd.func135, by kernel_rfl, by kernel_rfl⟩ (by
  intro args ins out h hp
  unfold sp156 at h
  split at h
  · rename_i a t
    cases h
    exact vcFun_ok (C := C156) good snd116 Meth.none mix Go.Proofs.Tryd.func135 (ann156 a t) (fun hw => by rw [← vc156 a t]; exact pure156 a t hp)
  · cases h)

theorem snd137 : Sound Go.Proofs.Tryd.prog G137 := snd156.add ⟨_, Go.Proofs.Tryd.func121, by kernel_rfl, by kernel_rfl⟩ (by
  intro args ins out h hp
  unfold sp137 at h
  split at h
  · rename_i a b t
    cases h
    exact vcFun_ok (C := C137) good snd156 Meth.none mix Go.Proofs.Tryd.func121 (ann137 a b t) (fun hw => by rw [← vc137 a b t]; exact pure137 a b t hp)
  · cases h)

theorem snd142 : Sound Go.Proofs.Tryd.prog G142 := snd137.add ⟨_, Go.Proofs.Tryd.func134, by kernel_rfl, by kernel_rfl⟩ (by
  intro args ins out h hp
  unfold sp142 at h
  split at h
  · rename_i a t
    cases h
    exact vcFun_ok (C := C142) good snd137 Meth.none mix Go.Proofs.Tryd.func134 (ann142 a t) (fun hw => by rw [← vc142 a t]; exact pure142 a t hp)
  · cases h)

theorem snd115 : Sound Go.Proofs.Tryd.prog G115 := snd142.add ⟨_, Go.Proofs.Tryd.func116, by kernel_rfl, by kernel_rfl⟩ (by
  intro args ins out h hp
  unfold sp115 at h
  split at h
  · rename_i n x t r1 p
    cases h
    exact vcFun_ok (C := C115) good snd142 Meth.none mix Go.Proofs.Tryd.func116 (ann115 r1 p x t n) (fun hw => by rw [← vc115 r1 p x t n]; exact pure115 r1 p x t n hp)
  · cases h)

end Go.SL.A

/- Words: plain functions. -/
namespace Go.SL.S
open Go Go.SL
def bw (w : List Bool) (i : Nat) : Bool := w.getD i false
def neqN (a b : List Bool) (n : Nat) : Nat := cn n fun i => bw a i != bw b i
def w127 : List Bool := List.replicate 127 false
def distB (a b : List Bool) : Int := (neqN a b 127 : Int)
def fillB (w h c : List Bool) : List Bool := (List.range 127).map fun i => if bw h i then bw c i else bw w i
def infTo (w : List Bool) : Nat → Int
  | 0 => 0
  | i + 1 => infTo w i + (if bw w (63 + i) then 2 ^ i else 0)
def infI (w : List Bool) : Int := infTo w 64
def syP (w : List Bool) (i : Nat) (k : Nat) : E := xs i fun i => if bw w i then ex (i * k) else 0
def synTo (w : List Bool) (i : Nat) : List Int := (List.range 20).map fun j => ofE (syP w i (j + 1))
def synL (w : List Bool) : List Int := synTo w 127
def isB (w : List Bool) : Bool := (synL w).all fun x => decide (x = 0)
def nearB (w h c : List Bool) : Bool := isB c && decide (2 * distB (fillB w h c) c + distB h w127 ≤ 20)
def badS (x : Int) : Bool := decide (x < 0) || decide (127 < x)
def rightS (s : List Int) : Bool := decide ((s.length : Int) = 20) && !s.any badS
def farTo6 (w h c : List Bool) : Nat → Int
  | 0 => 0
  | i + 1 => farTo6 w h c i + (if bw h i then 1 else if bw w i = bw c i then 0 else 2)
def far6 (w h c : List Bool) : Int := farTo6 w h c 127
def spoilF (w : List Bool) (at' : List Int) : List Bool := at'.foldl (fun v x => v.set (x.toNat % 127) (!(bw v (x.toNat % 127)))) w
def holesF (at' : List Int) : List Bool := at'.foldl (fun v x => v.set (x.toNat % 127) true) w127
end Go.SL.S

/- Functions and what they are held to do: bound to their code. -/
namespace Go.SL.A
open Go Go.SL Go.SL.S
set_option maxRecDepth 100000
noncomputable def C109 : Ctx := ⟨Go.Proofs.Tryd.prog, D, G115, (fun _ _ => none), fun _ => []⟩
def ann109 (a b : List Bool) : Nat → St → Option Ann := fun _ _ => some ⟨Nat, [2, 3], [0, 1], fun i => [(7, .v (.int .i64) (i : Int)), (5, .v (.int .i64) (neqN a b i : Int))], fun _ => [], fun i => i ≤ 127, fun i => 127 - i⟩
def out109 (a b : List Bool) : COut := ⟨[], .v (.int .i64) (distB a b), [], []⟩
def sp109 : Spec := fun args ins => match args, ins with
  | [⟨.arr 127 .bool, a⟩, ⟨.arr 127 .bool, b⟩], [] => some (out109 a b)
  | _, _ => none
def G109 := addG G115 118 sp109
def P109 (a b : List Bool) : Prop :=
  ∃ (x : Nat), (((0 : Nat) = (0 : Nat) ∧ (0 : Nat) = (0 : Nat) ∧ (0 : Int) = (↑(neqN a b x) : Int) ∧ (0 : Int) = (↑x : Int) ∧ a = a ∧ false = false ∧ b = b ∧ false = false) ∧ x ≤ (127 : Nat)) ∧ ∀ (x : Nat), x ≤ (127 : Nat)
  → IntKind.min IntKind.i64 ≤ (↑x : Int) ∧ (↑x : Int) ≤ IntKind.max IntKind.i64 ∧ IntKind.min IntKind.i64 ≤ (↑(neqN a b x) : Int) ∧ (↑(neqN a b x) : Int) ≤ IntKind.max IntKind.i64 → bif decide ((↑x : Int) < (127 : Int))
  then (((0 : Int) ≤ (↑x : Int) ∧ (↑x : Int) < (↑(127 : Nat) : Int)) ∧ Int.toNat (↑x : Int) < (127 : Nat) ∧ ((0 : Int) ≤ (↑x : Int) ∧ (↑x : Int) < (↑(127 : Nat) : Int)) ∧ Int.toNat (↑x : Int) < (127 : Nat)) ∧ bif !List.getD
  a (Int.toNat (↑x : Int)) false == List.getD b (Int.toNat (↑x : Int)) false then ∃ (y : Nat), ((0 : Nat) = (0 : Nat) ∧ (0 : Nat) = (0 : Nat) ∧ IntKind.wrap IntKind.i64 ((↑(neqN a b x) : Int) + (1 : Int)) = (↑(neqN a b y) :
  Int) ∧ IntKind.wrap IntKind.i64 ((↑x : Int) + (1 : Int)) = (↑y : Int) ∧ a = a ∧ false = false ∧ b = b ∧ false = false) ∧ y ≤ (127 : Nat) ∧ (127 : Nat) - y < (127 : Nat) - x else ∃ (y : Nat), ((0 : Nat) = (0 : Nat) ∧ (0 :
  Nat) = (0 : Nat) ∧ (↑(neqN a b x) : Int) = (↑(neqN a b y) : Int) ∧ IntKind.wrap IntKind.i64 ((↑x : Int) + (1 : Int)) = (↑y : Int) ∧ a = a ∧ false = false ∧ b = b ∧ false = false) ∧ y ≤ (127 : Nat) ∧ (127 : Nat) - y < (127
  : Nat) - x else (↑(neqN a b x) : Int) = distB a b
theorem vc109 (a b : List Bool) : P109 a b = vcFun C109 (ann109 a b) Go.Proofs.Tryd.f118 [⟨.arr 127 .bool, a⟩, ⟨.arr 127 .bool, b⟩] [] (out109 a b) := by kernel_rfl

noncomputable def C73 : Ctx := ⟨Go.Proofs.Tryd.prog, D, G109, (fun _ _ => none), fun _ => []⟩
def ann73 (_h : List Bool) : Nat → St → Option Ann := fun _ _ => none
def out73 (h : List Bool) : COut := ⟨[], .v (.int .i64) (distB h w127), [], []⟩
def sp73 : Spec := fun args ins => match args, ins with
  | [⟨.arr 127 .bool, h⟩], [] => some (out73 h)
  | _, _ => none
def G73 := addG G109 119 sp73
def P73 (h : List Bool) : Prop :=
  distB h (List.replicate (127 : Nat) false) = distB h w127
theorem vc73 (h : List Bool) : P73 h = vcFun C73 (ann73 h) Go.Proofs.Tryd.f119 [⟨.arr 127 .bool, h⟩] [] (out73 h) := by kernel_rfl

noncomputable def C107 : Ctx := ⟨Go.Proofs.Tryd.prog, D, G73, (fun _ _ => none), fun _ => []⟩
def ann107 (w h : List Bool) (c : Bool) : Nat → St → Option Ann := fun _ _ => some ⟨Nat, [2, 3, 4, 6], [1, 2], fun i => [(8, .v (.int .i64) (i : Int))], fun i => [(0, some ⟨false, true, .arr 127 .bool, [(fillB w h (List.replicate 127 c)).take i ++ w.drop i]⟩)], fun i => i ≤ 127, fun i => 127 - i⟩
def out107 (w h : List Bool) (c : Bool) : COut := ⟨[], .v (.arr 127 .bool) (fillB w h (List.replicate 127 c)), [], []⟩
def sp107 : Spec := fun args ins => match args, ins with
  | [⟨.arr 127 .bool, w⟩, ⟨.arr 127 .bool, h⟩, ⟨.bool, c⟩], [] => some (out107 w h c)
  | _, _ => none
def G107 := addG G73 87 sp107
def P107 (w h : List Bool) (c : Bool) : Prop :=
  ∃ (x : Nat), ((c = c ∧ (0 : Nat) = (0 : Nat) ∧ (0 : Nat) = (0 : Nat) ∧ (0 : Nat) = (0 : Nat) ∧ (0 : Int) = (↑x : Int) ∧ w = List.take x (fillB w h (List.replicate (127 : Nat) c)) ++ List.drop x w ∧ false = false ∧ h = h ∧
  false = false ∧ false :: List.replicate (nat_lit 126) false = List.replicate (127 : Nat) false ∧ false = false) ∧ x ≤ (127 : Nat)) ∧ ∀ (x : Nat), x ≤ (127 : Nat) → (IntKind.min IntKind.i64 ≤ (↑x : Int) ∧ (↑x : Int) ≤
  IntKind.max IntKind.i64 ∧ ∀ (y : List Bool), List.Mem y [List.take x (fillB w h (List.replicate (127 : Nat) c)) ++ List.drop x w] → List.length y = (127 : Nat) ∧ ∀ (y_1 : Bool), List.Mem y_1 y → True) → bif decide ((↑x :
  Int) < (127 : Int)) then (((0 : Int) ≤ (↑x : Int) ∧ (↑x : Int) < (↑(127 : Nat) : Int)) ∧ Int.toNat (↑x : Int) < (127 : Nat)) ∧ bif List.getD h (Int.toNat (↑x : Int)) false then (((0 : Int) ≤ (↑x : Int) ∧ (↑x : Int) <
  (↑(127 : Nat) : Int)) ∧ Int.toNat (↑x : Int) < (127 : Nat)) ∧ ∃ (y : Nat), (c = c ∧ (0 : Nat) = (0 : Nat) ∧ (0 : Nat) = (0 : Nat) ∧ (0 : Nat) = (0 : Nat) ∧ IntKind.wrap IntKind.i64 ((↑x : Int) + (1 : Int)) = (↑y : Int) ∧
  List.set (List.take x (fillB w h (List.replicate (127 : Nat) c)) ++ List.drop x w) (Int.toNat (↑x : Int)) c = List.take y (fillB w h (List.replicate (127 : Nat) c)) ++ List.drop y w ∧ false = false ∧ h = h ∧ false = false
  ∧ false :: List.replicate (nat_lit 126) false = List.replicate (127 : Nat) false ∧ false = false) ∧ y ≤ (127 : Nat) ∧ (127 : Nat) - y < (127 : Nat) - x else ∃ (y : Nat), (c = c ∧ (0 : Nat) = (0 : Nat) ∧ (0 : Nat) = (0 :
  Nat) ∧ (0 : Nat) = (0 : Nat) ∧ IntKind.wrap IntKind.i64 ((↑x : Int) + (1 : Int)) = (↑y : Int) ∧ List.append (List.take x (fillB w h (List.replicate (127 : Nat) c))) (List.drop x w) = List.take y (fillB w h (List.replicate
  (127 : Nat) c)) ++ List.drop y w ∧ false = false ∧ h = h ∧ false = false ∧ false :: List.replicate (nat_lit 126) false = List.replicate (127 : Nat) false ∧ false = false) ∧ y ≤ (127 : Nat) ∧ (127 : Nat) - y < (127 : Nat)
  - x else List.append (List.take x (fillB w h (List.replicate (127 : Nat) c))) (List.drop x w) = fillB w h (List.replicate (127 : Nat) c)
theorem vc107 (w h : List Bool) (c : Bool) : P107 w h c = vcFun C107 (ann107 w h c) Go.Proofs.Tryd.f87 [⟨.arr 127 .bool, w⟩, ⟨.arr 127 .bool, h⟩, ⟨.bool, c⟩] [] (out107 w h c) := by kernel_rfl

noncomputable def C108 : Ctx := ⟨Go.Proofs.Tryd.prog, D, G107, (fun _ _ => none), fun _ => []⟩
def ann108 (w : List Bool) : Nat → St → Option Ann := fun _ _ => some ⟨Nat, [1], [0], fun i => [(5, .v (.int .i64) (i : Int)), (3, .v (.int .u64) (infTo w i))], fun _ => [], fun i => i ≤ 64, fun i => 64 - i⟩
def out108 (w : List Bool) : COut := ⟨[], .v (.int .u64) (infI w), [], []⟩
def sp108 : Spec := fun args ins => match args, ins with
  | [⟨.arr 127 .bool, w⟩], [] => some (out108 w)
  | _, _ => none
def G108 := addG G107 90 sp108
def P108 (w : List Bool) : Prop :=
  ∃ (x : Nat), (((0 : Nat) = (0 : Nat) ∧ (0 : Int) = infTo w x ∧ (0 : Int) = (↑x : Int) ∧ w = w ∧ false = false) ∧ x ≤ (64 : Nat)) ∧ ∀ (x : Nat), x ≤ (64 : Nat) → IntKind.min IntKind.i64 ≤ (↑x : Int) ∧ (↑x : Int) ≤
  IntKind.max IntKind.i64 ∧ IntKind.min IntKind.u64 ≤ infTo w x ∧ infTo w x ≤ IntKind.max IntKind.u64 → bif decide ((↑x : Int) < (64 : Int)) then (((0 : Int) ≤ IntKind.wrap IntKind.i64 ((63 : Int) + (↑x : Int)) ∧
  IntKind.wrap IntKind.i64 ((63 : Int) + (↑x : Int)) < (↑(127 : Nat) : Int)) ∧ Int.toNat (IntKind.wrap IntKind.i64 ((63 : Int) + (↑x : Int))) < (127 : Nat)) ∧ bif List.getD w (Int.toNat (IntKind.wrap IntKind.i64 ((63 : Int)
  + (↑x : Int)))) false then (0 : Int) ≤ (↑x : Int) ∧ ∃ (y : Nat), ((0 : Nat) = (0 : Nat) ∧ ior IntKind.u64 (infTo w x) (ishl IntKind.u64 (1 : Int) (↑x : Int)) = infTo w y ∧ IntKind.wrap IntKind.i64 ((↑x : Int) + (1 : Int))
  = (↑y : Int) ∧ w = w ∧ false = false) ∧ y ≤ (64 : Nat) ∧ (64 : Nat) - y < (64 : Nat) - x else ∃ (y : Nat), ((0 : Nat) = (0 : Nat) ∧ infTo w x = infTo w y ∧ IntKind.wrap IntKind.i64 ((↑x : Int) + (1 : Int)) = (↑y : Int) ∧
  w = w ∧ false = false) ∧ y ≤ (64 : Nat) ∧ (64 : Nat) - y < (64 : Nat) - x else infTo w x = infI w
theorem vc108 (w : List Bool) : P108 w = vcFun C108 (ann108 w) Go.Proofs.Tryd.f90 [⟨.arr 127 .bool, w⟩] [] (out108 w) := by kernel_rfl

noncomputable def C77 : Ctx := ⟨Go.Proofs.Tryd.prog, D, G108, (fun _ _ => none), fun _ => []⟩
def ann77 (w : List Bool) : Nat → St → Option Ann := fun id S => match id with | 0 => some ⟨Nat, [3, 4, 10], [1], fun i => [(11, .v (.int .i64) (i : Int))], fun i => [(2, some ⟨false, false, .int .i64, synTo w i⟩)], fun i => i ≤ 127, fun i => 127 - i⟩ | _ => some ⟨Nat, [3, 4, 5, 6, 10, 11, 16], [1], fun j => [(17, .v (.int .i64) (j : Int))], fun j => [(2, some ⟨false, false, .int .i64, (synTo w ((S.i 11).toNat + 1)).take j ++ (synTo w (S.i 11).toNat).drop j⟩)], fun j => j ≤ 20, fun j => 20 - j⟩
def out77 (w : List Bool) : COut := ⟨[], .v (.ref .slice) (.slice 0 (.int .i64) [] 0 20), [], [⟨false, false, .int .i64, synL w⟩]⟩
def sp77 : Spec := fun args ins => match args, ins with
  | [⟨.arr 127 .bool, w⟩], [] => some (out77 w)
  | _, _ => none
def G77 := addG G108 86 sp77
def P77 (w : List Bool) : Prop :=
  ((0 : Int) ≤ (20 : Int) ∧ (20 : Int) = (20 : Int) ∧ (20 : Int) * (↑(8 : Nat) : Int) ≤ (↑(70368744177664 : Nat) : Int) ∧ (20 : Int) ≤ (↑(70368744177664 : Nat) : Int)) ∧ ∃ (x : Nat), (((0 : Nat) = (0 : Nat) ∧ (0 : Nat) = (0
  : Nat) ∧ (20 : Nat) = (20 : Nat) ∧ w = w ∧ (0 : Int) = (↑x : Int) ∧ Prod.fst fieldT = Prod.fst fieldT ∧ Prod.snd fieldT = Prod.snd fieldT ∧ false = false ∧ (0 : Int) :: List.replicate (nat_lit 19) (0 : Int) = synTo w x ∧
  false = false) ∧ x ≤ (127 : Nat)) ∧ ∀ (x : Nat), x ≤ (127 : Nat) → (IntKind.min IntKind.i64 ≤ (↑x : Int) ∧ (↑x : Int) ≤ IntKind.max IntKind.i64 ∧ ∀ (y : Int), List.Mem y (synTo w x) → IntKind.min IntKind.i64 ≤ y ∧ y ≤
  IntKind.max IntKind.i64) → bif decide ((↑x : Int) < (127 : Int)) then ((0 : Int) ≤ (↑x : Int) ∧ (↑x : Int) < (↑(127 : Nat) : Int)) ∧ ∃ (x_1 : Nat), (((0 : Nat) = (0 : Nat) ∧ (0 : Nat) = (0 : Nat) ∧ (20 : Nat) = (20 : Nat)
  ∧ (↑x : Int) = (↑x : Int) ∧ List.getD w (Int.toNat (↑x : Int)) false = List.getD w (Int.toNat (↑x : Int)) false ∧ w = w ∧ (↑x : Int) = (↑x : Int) ∧ (↑(20 : Nat) : Int) = (↑(20 : Nat) : Int) ∧ (0 : Int) = (↑x_1 : Int) ∧
  Prod.fst fieldT = Prod.fst fieldT ∧ Prod.snd fieldT = Prod.snd fieldT ∧ false = false ∧ synTo w x = List.take x_1 (synTo w (Int.toNat (↑x : Int) + (1 : Nat))) ++ List.drop x_1 (synTo w (Int.toNat (↑x : Int))) ∧ false =
  false) ∧ x_1 ≤ (20 : Nat)) ∧ ∀ (x_2 : Nat), x_2 ≤ (20 : Nat) → (IntKind.min IntKind.i64 ≤ (↑x_2 : Int) ∧ (↑x_2 : Int) ≤ IntKind.max IntKind.i64 ∧ ∀ (y : Int), List.Mem y (List.take x_2 (synTo w (Int.toNat (↑x : Int) + (1
  : Nat))) ++ List.drop x_2 (synTo w (Int.toNat (↑x : Int)))) → IntKind.min IntKind.i64 ≤ y ∧ y ≤ IntKind.max IntKind.i64) → bif decide ((↑x_2 : Int) < (↑(20 : Nat) : Int)) then bif List.getD w (Int.toNat (↑x : Int)) false
  then (((0 : Int) ≤ (↑x_2 : Int) ∧ (↑x_2 : Int) < (↑(20 : Nat) : Int)) ∧ (0 : Nat) + Int.toNat (↑x_2 : Int) < List.length (List.take x_2 (synTo w (Int.toNat (↑x : Int) + (1 : Nat))) ++ List.drop x_2 (synTo w (Int.toNat (↑x
  : Int)))) ∧ fieldT = fieldT ∧ ((0 : Int) ≤ (↑x_2 : Int) ∧ (↑x_2 : Int) < (↑(20 : Nat) : Int)) ∧ (0 : Nat) + Int.toNat (↑x_2 : Int) < List.length (List.take x_2 (synTo w (Int.toNat (↑x : Int) + (1 : Nat))) ++ List.drop x_2
  (synTo w (Int.toNat (↑x : Int))))) ∧ ∃ (y : Nat), ((0 : Nat) = (0 : Nat) ∧ (0 : Nat) = (0 : Nat) ∧ (20 : Nat) = (20 : Nat) ∧ (↑x : Int) = (↑x : Int) ∧ List.getD w (Int.toNat (↑x : Int)) false = List.getD w (Int.toNat (↑x
  : Int)) false ∧ w = w ∧ (↑x : Int) = (↑x : Int) ∧ (↑(20 : Nat) : Int) = (↑(20 : Nat) : Int) ∧ IntKind.wrap IntKind.i64 ((↑x_2 : Int) + (1 : Int)) = (↑y : Int) ∧ Prod.fst fieldT = Prod.fst fieldT ∧ Prod.snd fieldT =
  Prod.snd fieldT ∧ false = false ∧ List.set (List.take x_2 (synTo w (Int.toNat (↑x : Int) + (1 : Nat))) ++ List.drop x_2 (synTo w (Int.toNat (↑x : Int)))) ((0 : Nat) + Int.toNat (↑x_2 : Int)) (ixor IntKind.i64 (List.getD
  (List.take x_2 (synTo w (Int.toNat (↑x : Int) + (1 : Nat))) ++ List.drop x_2 (synTo w (Int.toNat (↑x : Int)))) ((0 : Nat) + Int.toNat (↑x_2 : Int)) (0 : Int)) (xpI (IntKind.wrap IntKind.i64 ((↑x : Int) * IntKind.wrap
  IntKind.i64 ((↑x_2 : Int) + (1 : Int)))))) = List.take y (synTo w (Int.toNat (↑x : Int) + (1 : Nat))) ++ List.drop y (synTo w (Int.toNat (↑x : Int))) ∧ false = false) ∧ y ≤ (20 : Nat) ∧ (20 : Nat) - y < (20 : Nat) - x_2
  else ∃ (y : Nat), ((0 : Nat) = (0 : Nat) ∧ (0 : Nat) = (0 : Nat) ∧ (20 : Nat) = (20 : Nat) ∧ (↑x : Int) = (↑x : Int) ∧ List.getD w (Int.toNat (↑x : Int)) false = List.getD w (Int.toNat (↑x : Int)) false ∧ w = w ∧ (↑x :
  Int) = (↑x : Int) ∧ (↑(20 : Nat) : Int) = (↑(20 : Nat) : Int) ∧ IntKind.wrap IntKind.i64 ((↑x_2 : Int) + (1 : Int)) = (↑y : Int) ∧ Prod.fst fieldT = Prod.fst fieldT ∧ Prod.snd fieldT = Prod.snd fieldT ∧ false = false ∧
  List.append (List.take x_2 (synTo w (Int.toNat (↑x : Int) + (1 : Nat)))) (List.drop x_2 (synTo w (Int.toNat (↑x : Int)))) = List.take y (synTo w (Int.toNat (↑x : Int) + (1 : Nat))) ++ List.drop y (synTo w (Int.toNat (↑x :
  Int))) ∧ false = false) ∧ y ≤ (20 : Nat) ∧ (20 : Nat) - y < (20 : Nat) - x_2 else ∃ (y : Nat), ((0 : Nat) = (0 : Nat) ∧ (0 : Nat) = (0 : Nat) ∧ (20 : Nat) = (20 : Nat) ∧ w = w ∧ IntKind.wrap IntKind.i64 ((↑x : Int) + (1 :
  Int)) = (↑y : Int) ∧ Prod.fst fieldT = Prod.fst fieldT ∧ Prod.snd fieldT = Prod.snd fieldT ∧ false = false ∧ List.append (List.take x_2 (synTo w (Int.toNat (↑x : Int) + (1 : Nat)))) (List.drop x_2 (synTo w (Int.toNat (↑x
  : Int)))) = synTo w y ∧ false = false) ∧ y ≤ (127 : Nat) ∧ (127 : Nat) - y < (127 : Nat) - x else (0 : Nat) = (0 : Nat) ∧ (20 : Nat) = (20 : Nat) ∧ synTo w x = synL w ∧ false = false
theorem vc77 (w : List Bool) : P77 w = vcFun C77 (ann77 w) Go.Proofs.Tryd.f86 [⟨.arr 127 .bool, w⟩] [] (out77 w) := by kernel_rfl

noncomputable def C110 : Ctx := ⟨Go.Proofs.Tryd.prog, D, G77, (fun _ _ => none), fun _ => []⟩
def ann110 (w : List Bool) : Nat → St → Option Ann := fun _ _ => some ⟨Nat, [6, 7], [1], fun i => [(8, .v (.int .i64) (i : Int))], fun _ => [], fun i => i ≤ 20 ∧ ((synL w).take i).all (fun x => decide (x = 0)) = true, fun i => 20 - i⟩
def out110 (w : List Bool) : COut := ⟨[], .v .bool (isB w), [], []⟩
def sp110 : Spec := fun args ins => match args, ins with
  | [⟨.arr 127 .bool, w⟩], [] => some (out110 w)
  | _, _ => none
def G110 := addG G77 71 sp110
def P110 (w : List Bool) : Prop :=
  ∃ (x : Nat), (((0 : Nat) = (0 : Nat) ∧ (20 : Nat) = (20 : Nat) ∧ (↑(20 : Nat) : Int) = (↑(20 : Nat) : Int) ∧ (0 : Int) = (↑x : Int) ∧ synL w = synL w ∧ false = false) ∧ x ≤ (20 : Nat) ∧ (List.all (List.take x (synL w))
  fun (x : Int) => decide (x = (0 : Int))) = true) ∧ ∀ (x : Nat), x ≤ (20 : Nat) ∧ (List.all (List.take x (synL w)) fun (x : Int) => decide (x = (0 : Int))) = true → IntKind.min IntKind.i64 ≤ (↑x : Int) ∧ (↑x : Int) ≤
  IntKind.max IntKind.i64 → bif decide ((↑x : Int) < (↑(20 : Nat) : Int)) then (((0 : Int) ≤ (↑x : Int) ∧ (↑x : Int) < (↑(20 : Nat) : Int)) ∧ (0 : Nat) + Int.toNat (↑x : Int) < List.length (synL w)) ∧ bif !decide (List.getD
  (synL w) ((0 : Nat) + Int.toNat (↑x : Int)) (0 : Int) = (0 : Int)) then false = isB w else ∃ (y : Nat), ((0 : Nat) = (0 : Nat) ∧ (20 : Nat) = (20 : Nat) ∧ (↑(20 : Nat) : Int) = (↑(20 : Nat) : Int) ∧ IntKind.wrap
  IntKind.i64 ((↑x : Int) + (1 : Int)) = (↑y : Int) ∧ synL w = synL w ∧ false = false) ∧ (y ≤ (20 : Nat) ∧ (List.all (List.take y (synL w)) fun (x : Int) => decide (x = (0 : Int))) = true) ∧ (20 : Nat) - y < (20 : Nat) - x
  else true = isB w
theorem vc110 (w : List Bool) : P110 w = vcFun C110 (ann110 w) Go.Proofs.Tryd.f71 [⟨.arr 127 .bool, w⟩] [] (out110 w) := by kernel_rfl

noncomputable def C74 : Ctx := ⟨Go.Proofs.Tryd.prog, D, G110, (fun _ _ => none), fun _ => []⟩
def ann74 (w h c : List Bool) : Nat → St → Option Ann := fun _ _ => some ⟨Nat, [3, 4, 5], [1, 2], fun i => [(8, .v (.int .i64) (i : Int))], fun i => [(0, some ⟨false, true, .arr 127 .bool, [(fillB w h c).take i ++ w.drop i]⟩)], fun i => i ≤ 127, fun i => 127 - i⟩
def out74 (w h c : List Bool) : COut := ⟨[], .v .bool (nearB w h c), [], []⟩
def sp74 : Spec := fun args ins => match args, ins with
  | [⟨.arr 127 .bool, w⟩, ⟨.arr 127 .bool, h⟩, ⟨.arr 127 .bool, c⟩], [] => some (out74 w h c)
  | _, _ => none
def G74 := addG G110 89 sp74
def P74 (w h c : List Bool) : Prop :=
  ∃ (x : Nat), (((0 : Nat) = (0 : Nat) ∧ (0 : Nat) = (0 : Nat) ∧ (0 : Nat) = (0 : Nat) ∧ (0 : Int) = (↑x : Int) ∧ w = List.take x (fillB w h c) ++ List.drop x w ∧ false = false ∧ h = h ∧ false = false ∧ c = c ∧ false =
  false) ∧ x ≤ (127 : Nat)) ∧ ∀ (x : Nat), x ≤ (127 : Nat) → (IntKind.min IntKind.i64 ≤ (↑x : Int) ∧ (↑x : Int) ≤ IntKind.max IntKind.i64 ∧ ∀ (y : List Bool), List.Mem y [List.take x (fillB w h c) ++ List.drop x w] →
  List.length y = (127 : Nat) ∧ ∀ (y_1 : Bool), List.Mem y_1 y → True) → bif decide ((↑x : Int) < (127 : Int)) then (((0 : Int) ≤ (↑x : Int) ∧ (↑x : Int) < (↑(127 : Nat) : Int)) ∧ Int.toNat (↑x : Int) < (127 : Nat)) ∧ bif
  List.getD h (Int.toNat (↑x : Int)) false then (((0 : Int) ≤ (↑x : Int) ∧ (↑x : Int) < (↑(127 : Nat) : Int)) ∧ Int.toNat (↑x : Int) < (127 : Nat) ∧ ((0 : Int) ≤ (↑x : Int) ∧ (↑x : Int) < (↑(127 : Nat) : Int)) ∧ Int.toNat
  (↑x : Int) < (127 : Nat)) ∧ ∃ (y : Nat), ((0 : Nat) = (0 : Nat) ∧ (0 : Nat) = (0 : Nat) ∧ (0 : Nat) = (0 : Nat) ∧ IntKind.wrap IntKind.i64 ((↑x : Int) + (1 : Int)) = (↑y : Int) ∧ List.set (List.take x (fillB w h c) ++
  List.drop x w) (Int.toNat (↑x : Int)) (List.getD c (Int.toNat (↑x : Int)) false) = List.take y (fillB w h c) ++ List.drop y w ∧ false = false ∧ h = h ∧ false = false ∧ c = c ∧ false = false) ∧ y ≤ (127 : Nat) ∧ (127 :
  Nat) - y < (127 : Nat) - x else ∃ (y : Nat), ((0 : Nat) = (0 : Nat) ∧ (0 : Nat) = (0 : Nat) ∧ (0 : Nat) = (0 : Nat) ∧ IntKind.wrap IntKind.i64 ((↑x : Int) + (1 : Int)) = (↑y : Int) ∧ List.append (List.take x (fillB w h
  c)) (List.drop x w) = List.take y (fillB w h c) ++ List.drop y w ∧ false = false ∧ h = h ∧ false = false ∧ c = c ∧ false = false) ∧ y ≤ (127 : Nat) ∧ (127 : Nat) - y < (127 : Nat) - x else bif isB c then decide
  (IntKind.wrap IntKind.i64 (IntKind.wrap IntKind.i64 ((2 : Int) * distB (List.take x (fillB w h c) ++ List.drop x w) c) + distB h w127) ≤ (20 : Int)) = nearB w h c else (false = true → false = true) ∧ false = nearB w h c
theorem vc74 (w h c : List Bool) : P74 w h c = vcFun C74 (ann74 w h c) Go.Proofs.Tryd.f89 [⟨.arr 127 .bool, w⟩, ⟨.arr 127 .bool, h⟩, ⟨.arr 127 .bool, c⟩] [] (out74 w h c) := by kernel_rfl

noncomputable def C139 : Ctx := ⟨Go.Proofs.Tryd.prog, D, G74, (fun _ _ => none), fun _ => []⟩
def ann139 (_x : Int) : Nat → St → Option Ann := fun _ _ => none
def out139 (x : Int) : COut := ⟨[], .v .bool (badS x), [], []⟩
def sp139 : Spec := fun args ins => match args, ins with
  | [⟨.int .i64, x⟩], [] => some (out139 x)
  | _, _ => none
def G139 := addG G74 131 sp139
def P139 (x : Int) : Prop :=
  ∀ (b : Bool), decide (x < (0 : Int)) = b → (((!b) = true → (!b) = true) ∧ (b = false → (!b) = true)) ∧ (bif b then true else decide ((127 : Int) < x)) = badS x
theorem vc139 (x : Int) : P139 x = vcFun C139 (ann139 x) Go.Proofs.Tryd.f131 [⟨.int .i64, x⟩] [] (out139 x) := by kernel_rfl

noncomputable def C90d : Ctx := ⟨Go.Proofs.Tryd.prog, D, G139, (fun _ _ => none), fun _ => []⟩
def ann90d (_r : Bool) (n : Nat) (s : List Int) : Nat → St → Option Ann := fun _ _ => some ⟨Nat, [0, 1, 7], [0], fun i => [(8, .v (.int .i64) (i : Int))], fun _ => [], fun i => i ≤ n ∧ findIx badS s 0 = findIx badS (s.drop i) i, fun i => n - i⟩
def out90d (_r : Bool) (n : Nat) (s : List Int) : COut := ⟨[n = s.length ∧ n ≤ 1000000000], .v (.int .i64) (findIx badS s 0), [], []⟩
def sp90d : Spec := fun args ins => match args, ins with
  | [⟨.ref .slice, .slice 0 (.int .i64) [] 0 n⟩, ⟨.ref .func, .func (.func 131) [] []⟩], [⟨r, false, .int .i64, s⟩] => some (out90d r n s)
  | _, _ => none
def G90d := addM G139 68 sp90d
def P90d (r : Bool) (n : Nat) (s : List Int) : Prop :=
  ∃ (x : Nat), (((0 : Nat) = (0 : Nat) ∧ n = n ∧ (↑n : Int) = (↑n : Int) ∧ (0 : Int) = (↑x : Int) ∧ s = s ∧ r = r) ∧ x ≤ n ∧ findIx badS s (0 : Nat) = findIx badS (List.drop x s) x) ∧ ∀ (x : Nat), x ≤ n ∧ findIx badS s (0 :
  Nat) = findIx badS (List.drop x s) x → IntKind.min IntKind.i64 ≤ (↑x : Int) ∧ (↑x : Int) ≤ IntKind.max IntKind.i64 → bif decide ((↑x : Int) < (↑n : Int)) then (((0 : Int) ≤ (↑x : Int) ∧ (↑x : Int) < (↑n : Int)) ∧ (0 :
  Nat) + Int.toNat (↑x : Int) < List.length s) ∧ bif badS (List.getD s ((0 : Nat) + Int.toNat (↑x : Int)) (0 : Int)) then (↑x : Int) = findIx badS s (0 : Nat) ∧ s = s ∧ r = r else ∃ (y : Nat), ((0 : Nat) = (0 : Nat) ∧ n = n
  ∧ (↑n : Int) = (↑n : Int) ∧ IntKind.wrap IntKind.i64 ((↑x : Int) + (1 : Int)) = (↑y : Int) ∧ s = s ∧ r = r) ∧ (y ≤ n ∧ findIx badS s (0 : Nat) = findIx badS (List.drop y s) y) ∧ n - y < n - x else (-1 : Int) = findIx badS
  s (0 : Nat) ∧ s = s ∧ r = r
theorem vc90d (r : Bool) (n : Nat) (s : List Int) : P90d r n s = vcFun C90d (ann90d r n s) Go.Proofs.Tryd.f68 [⟨.ref .slice, .slice 0 (.int .i64) [] 0 n⟩, ⟨.ref .func, .func (.func 131) [] []⟩] [⟨r, false, .int .i64, s⟩] (out90d r n s) := by kernel_rfl

noncomputable def C130c : Ctx := ⟨Go.Proofs.Tryd.prog, D, G90d, (fun _ _ => none), fun _ => []⟩
def ann130c (_r : Bool) (_n : Nat) (_s : List Int) : Nat → St → Option Ann := fun _ _ => none
def out130c (_r : Bool) (n : Nat) (s : List Int) : COut := ⟨[n = s.length ∧ n ≤ 1000000000], .v .bool (s.any badS), [], []⟩
def sp130c : Spec := fun args ins => match args, ins with
  | [⟨.ref .slice, .slice 0 (.int .i64) [] 0 n⟩, ⟨.ref .func, .func (.func 131) [] []⟩], [⟨r, false, .int .i64, s⟩] => some (out130c r n s)
  | _, _ => none
def G130c := addM G90d 102 sp130c
def P130c (r : Bool) (n : Nat) (s : List Int) : Prop :=
  (n = List.length s ∧ n ≤ (1000000000 : Nat)) ∧ decide ((0 : Int) ≤ findIx badS s (0 : Nat)) = List.any s badS ∧ s = s ∧ r = r
theorem vc130c (r : Bool) (n : Nat) (s : List Int) : P130c r n s = vcFun C130c (ann130c r n s) Go.Proofs.Tryd.f102 [⟨.ref .slice, .slice 0 (.int .i64) [] 0 n⟩, ⟨.ref .func, .func (.func 131) [] []⟩] [⟨r, false, .int .i64, s⟩] (out130c r n s) := by kernel_rfl

noncomputable def C112 : Ctx := ⟨Go.Proofs.Tryd.prog, D, G130c, (fun _ _ => none), fun _ => []⟩
def ann112 (_r : Bool) (_n : Nat) (_s : List Int) : Nat → St → Option Ann := fun _ _ => none
def out112 (_r : Bool) (n : Nat) (s : List Int) : COut := ⟨[n = s.length ∧ n ≤ 1000000000], .v .bool (rightS s), [], []⟩
def sp112 : Spec := fun args ins => match args, ins with
  | [⟨.ref .slice, .slice 0 (.int .i64) [] 0 n⟩], [⟨r, false, .int .i64, s⟩] => some (out112 r n s)
  | _, _ => none
def G112 := addG G130c 114 sp112
def P112 (r : Bool) (n : Nat) (s : List Int) : Prop :=
  bif decide ((↑n : Int) = (20 : Int)) then (n = List.length s ∧ n ≤ (1000000000 : Nat)) ∧ (!List.any s badS) = rightS s ∧ s = s ∧ r = r else (false = true → false = true) ∧ false = rightS s ∧ s = s ∧ r = r
theorem vc112 (r : Bool) (n : Nat) (s : List Int) : P112 r n s = vcFun C112 (ann112 r n s) Go.Proofs.Tryd.f114 [⟨.ref .slice, .slice 0 (.int .i64) [] 0 n⟩] [⟨r, false, .int .i64, s⟩] (out112 r n s) := by kernel_rfl

noncomputable def C117 : Ctx := ⟨Go.Proofs.Tryd.prog, D, G112, (fun _ _ => none), fun _ => []⟩
def ann117 (_r1 _r2 : Bool) (n _m : Nat) (a b : List Int) : Nat → St → Option Ann := fun _ _ => some ⟨Nat, [0, 1, 12], [0, 1], fun i => [(13, .v (.int .i64) (i : Int))], fun _ => [], fun i => i ≤ n ∧ a.take i = b.take i, fun i => n - i⟩
def out117 (_r1 _r2 : Bool) (n m : Nat) (a b : List Int) : COut := ⟨[n = a.length ∧ n ≤ 1000000000 ∧ m = b.length ∧ m ≤ 1000000000], .v .bool (decide (a = b)), [], []⟩
def sp117 : Spec := fun args ins => match args, ins with
  | [⟨.ref .slice, .slice 0 (.int .i64) [] 0 n⟩, ⟨.ref .slice, .slice 1 (.int .i64) [] 0 m⟩], [⟨r1, false, .int .i64, a⟩, ⟨r2, false, .int .i64, b⟩] => some (out117 r1 r2 n m a b)
  | _, _ => none
def G117 := addG G112 117 sp117
def P117 (r1 r2 : Bool) (n m : Nat) (a b : List Int) : Prop :=
  bif !decide ((↑n : Int) = (↑m : Int)) then false = decide (a = b) ∧ a = a ∧ r1 = r1 ∧ b = b ∧ r2 = r2 else ∃ (x : Nat), (((0 : Nat) = (0 : Nat) ∧ n = n ∧ (0 : Nat) = (0 : Nat) ∧ m = m ∧ (↑n : Int) = (↑n : Int) ∧ (0 : Int)
  = (↑x : Int) ∧ a = a ∧ r1 = r1 ∧ b = b ∧ r2 = r2) ∧ x ≤ n ∧ List.take x a = List.take x b) ∧ ∀ (x : Nat), x ≤ n ∧ List.take x a = List.take x b → IntKind.min IntKind.i64 ≤ (↑x : Int) ∧ (↑x : Int) ≤ IntKind.max IntKind.i64
  → bif decide ((↑x : Int) < (↑n : Int)) then (((0 : Int) ≤ (↑x : Int) ∧ (↑x : Int) < (↑n : Int)) ∧ (0 : Nat) + Int.toNat (↑x : Int) < List.length a ∧ ((0 : Int) ≤ (↑x : Int) ∧ (↑x : Int) < (↑m : Int)) ∧ (0 : Nat) +
  Int.toNat (↑x : Int) < List.length b) ∧ bif !decide (List.getD a ((0 : Nat) + Int.toNat (↑x : Int)) (0 : Int) = List.getD b ((0 : Nat) + Int.toNat (↑x : Int)) (0 : Int)) then false = decide (a = b) ∧ a = a ∧ r1 = r1 ∧ b =
  b ∧ r2 = r2 else ∃ (y : Nat), ((0 : Nat) = (0 : Nat) ∧ n = n ∧ (0 : Nat) = (0 : Nat) ∧ m = m ∧ (↑n : Int) = (↑n : Int) ∧ IntKind.wrap IntKind.i64 ((↑x : Int) + (1 : Int)) = (↑y : Int) ∧ a = a ∧ r1 = r1 ∧ b = b ∧ r2 = r2)
  ∧ (y ≤ n ∧ List.take y a = List.take y b) ∧ n - y < n - x else true = decide (a = b) ∧ a = a ∧ r1 = r1 ∧ b = b ∧ r2 = r2
theorem vc117 (r1 r2 : Bool) (n m : Nat) (a b : List Int) : P117 r1 r2 n m a b = vcFun C117 (ann117 r1 r2 n m a b) Go.Proofs.Tryd.f117 [⟨.ref .slice, .slice 0 (.int .i64) [] 0 n⟩, ⟨.ref .slice, .slice 1 (.int .i64) [] 0 m⟩] [⟨r1, false, .int .i64, a⟩, ⟨r2, false, .int .i64, b⟩] (out117 r1 r2 n m a b) := by kernel_rfl

noncomputable def C141 : Ctx := ⟨Go.Proofs.Tryd.prog, D, G117, (fun _ _ => none), fun _ => []⟩
def ann141 (_n : Nat) (_s : List Int) : Nat → St → Option Ann := fun _ _ => none
def out141 (n : Nat) (s : List Int) : COut := ⟨[n = s.length ∧ 0 < n ∧ n ≤ 1000], .v (.ref .slice) (.slice 1 (.int .i64) [] 0 n), [], [⟨false, false, .int .i64, s⟩]⟩
def sp141 : Spec := fun args ins => match args, ins with
  | [⟨.ref .slice, .slice 0 (.int .i64) [] 0 n⟩], [⟨false, false, .int .i64, s⟩] => some (out141 n s)
  | _, _ => none
def G141 := addG G117 133 sp141
def P141 (n : Nat) (s : List Int) : Prop :=
  (0 : Nat) < n ∧ ((0 : Nat) + n ≤ List.length s ∧ (0 : Nat) = (0 : Nat) ∧ ((0 : Nat) + List.length (seg s (0 : Nat) n)) * (8 : Nat) ≤ (70368744177664 : Nat)) ∧ (0 : Nat) = (0 : Nat) ∧ (0 : Nat) + List.length (seg s (0 :
  Nat) n) = n ∧ s = s ∧ false = false ∧ seg s (0 : Nat) n = s ∧ false = false
theorem vc141 (n : Nat) (s : List Int) : P141 n s = vcFun C141 (ann141 n s) Go.Proofs.Tryd.f133 [⟨.ref .slice, .slice 0 (.int .i64) [] 0 n⟩] [⟨false, false, .int .i64, s⟩] (out141 n s) := by kernel_rfl

noncomputable def C72 : Ctx := ⟨Go.Proofs.Tryd.prog, D, G141, (fun _ _ => none), fun _ => []⟩
def ann72 (w h c : List Bool) : Nat → St → Option Ann := fun _ _ => some ⟨Nat, [3, 4, 5], [0, 1, 2], fun i => [(8, .v (.int .i64) (i : Int)), (7, .v (.int .i64) (farTo6 w h c i))], fun _ => [], fun i => i ≤ 127, fun i => 127 - i⟩
def out72 (w h c : List Bool) : COut := ⟨[], .v (.int .i64) (far6 w h c), [], []⟩
def sp72 : Spec := fun args ins => match args, ins with
  | [⟨.arr 127 .bool, w⟩, ⟨.arr 127 .bool, h⟩, ⟨.arr 127 .bool, c⟩], [] => some (out72 w h c)
  | _, _ => none
def G72 := addG G141 37 sp72
def P72 (w h c : List Bool) : Prop :=
  ∃ (x : Nat), (((0 : Nat) = (0 : Nat) ∧ (0 : Nat) = (0 : Nat) ∧ (0 : Nat) = (0 : Nat) ∧ (0 : Int) = farTo6 w h c x ∧ (0 : Int) = (↑x : Int) ∧ w = w ∧ false = false ∧ h = h ∧ false = false ∧ c = c ∧ false = false) ∧ x ≤
  (127 : Nat)) ∧ ∀ (x : Nat), x ≤ (127 : Nat) → IntKind.min IntKind.i64 ≤ (↑x : Int) ∧ (↑x : Int) ≤ IntKind.max IntKind.i64 ∧ IntKind.min IntKind.i64 ≤ farTo6 w h c x ∧ farTo6 w h c x ≤ IntKind.max IntKind.i64 → bif decide
  ((↑x : Int) < (127 : Int)) then (((0 : Int) ≤ (↑x : Int) ∧ (↑x : Int) < (↑(127 : Nat) : Int)) ∧ Int.toNat (↑x : Int) < (127 : Nat)) ∧ bif List.getD h (Int.toNat (↑x : Int)) false then ∃ (y : Nat), ((0 : Nat) = (0 : Nat) ∧
  (0 : Nat) = (0 : Nat) ∧ (0 : Nat) = (0 : Nat) ∧ IntKind.wrap IntKind.i64 (farTo6 w h c x + (1 : Int)) = farTo6 w h c y ∧ IntKind.wrap IntKind.i64 ((↑x : Int) + (1 : Int)) = (↑y : Int) ∧ w = w ∧ false = false ∧ h = h ∧
  false = false ∧ c = c ∧ false = false) ∧ y ≤ (127 : Nat) ∧ (127 : Nat) - y < (127 : Nat) - x else (((0 : Int) ≤ (↑x : Int) ∧ (↑x : Int) < (↑(127 : Nat) : Int)) ∧ Int.toNat (↑x : Int) < (127 : Nat) ∧ ((0 : Int) ≤ (↑x :
  Int) ∧ (↑x : Int) < (↑(127 : Nat) : Int)) ∧ Int.toNat (↑x : Int) < (127 : Nat)) ∧ bif !List.getD w (Int.toNat (↑x : Int)) false == List.getD c (Int.toNat (↑x : Int)) false then ∃ (y : Nat), ((0 : Nat) = (0 : Nat) ∧ (0 :
  Nat) = (0 : Nat) ∧ (0 : Nat) = (0 : Nat) ∧ IntKind.wrap IntKind.i64 (farTo6 w h c x + (2 : Int)) = farTo6 w h c y ∧ IntKind.wrap IntKind.i64 ((↑x : Int) + (1 : Int)) = (↑y : Int) ∧ w = w ∧ false = false ∧ h = h ∧ false =
  false ∧ c = c ∧ false = false) ∧ y ≤ (127 : Nat) ∧ (127 : Nat) - y < (127 : Nat) - x else ∃ (y : Nat), ((0 : Nat) = (0 : Nat) ∧ (0 : Nat) = (0 : Nat) ∧ (0 : Nat) = (0 : Nat) ∧ farTo6 w h c x = farTo6 w h c y ∧
  IntKind.wrap IntKind.i64 ((↑x : Int) + (1 : Int)) = (↑y : Int) ∧ w = w ∧ false = false ∧ h = h ∧ false = false ∧ c = c ∧ false = false) ∧ y ≤ (127 : Nat) ∧ (127 : Nat) - y < (127 : Nat) - x else farTo6 w h c x = far6 w h
  c
theorem vc72 (w h c : List Bool) : P72 w h c = vcFun C72 (ann72 w h c) Go.Proofs.Tryd.f37 [⟨.arr 127 .bool, w⟩, ⟨.arr 127 .bool, h⟩, ⟨.arr 127 .bool, c⟩] [] (out72 w h c) := by kernel_rfl

noncomputable def C69 : Ctx := ⟨Go.Proofs.Tryd.prog, D, G72, (fun _ _ => none), fun _ => []⟩
def ann69 (w : List Bool) (n : Nat) (l : List Int) : Nat → St → Option Ann := fun _ _ => some ⟨Nat, [1, 2, 4], [0, 2], fun i => [(5, .v (.int .i64) (i : Int))], fun i => [(1, some ⟨false, true, .arr 127 .bool, [spoilF w (l.take i)]⟩)], fun i => i ≤ n, fun i => n - i⟩
def out69 (w : List Bool) (n : Nat) (l : List Int) : COut := ⟨[n = l.length ∧ n ≤ 1000000], .v (.arr 127 .bool) (spoilF w l), [], []⟩
def sp69 : Spec := fun args ins => match args, ins with
  | [⟨.arr 127 .bool, w⟩, ⟨.ref .slice, .slice 0 (.int .u8) [] 0 n⟩], [⟨true, false, .int .u8, l⟩] => some (out69 w n l)
  | _, _ => none
def G69 := addG G72 34 sp69
def P69 (w : List Bool) (n : Nat) (l : List Int) : Prop :=
  ∃ (x : Nat), (((0 : Nat) = (0 : Nat) ∧ n = n ∧ (0 : Nat) = (0 : Nat) ∧ (0 : Nat) = (0 : Nat) ∧ (0 : Int) = (↑x : Int) ∧ l = l ∧ true = true ∧ w = spoilF w (List.take x l) ∧ false = false ∧ false :: List.replicate (nat_lit
  126) false = List.replicate (127 : Nat) false ∧ false = false) ∧ x ≤ n) ∧ ∀ (x : Nat), x ≤ n → (IntKind.min IntKind.i64 ≤ (↑x : Int) ∧ (↑x : Int) ≤ IntKind.max IntKind.i64 ∧ ∀ (y : List Bool), List.Mem y [spoilF w
  (List.take x l)] → List.length y = (127 : Nat) ∧ ∀ (y_1 : Bool), List.Mem y_1 y → True) → bif decide ((↑x : Int) < (↑n : Int)) then (((0 : Int) ≤ (↑x : Int) ∧ (↑x : Int) < (↑n : Int)) ∧ (0 : Nat) + Int.toNat (↑x : Int) <
  List.length l ∧ (127 : Int) ≠ (0 : Int) ∧ ((0 : Int) ≤ (↑x : Int) ∧ (↑x : Int) < (↑n : Int)) ∧ (0 : Nat) + Int.toNat (↑x : Int) < List.length l ∧ (127 : Int) ≠ (0 : Int) ∧ ((0 : Int) ≤ Int.tmod (IntKind.wrap IntKind.i64
  (List.getD l ((0 : Nat) + Int.toNat (↑x : Int)) (0 : Int))) (127 : Int) ∧ Int.tmod (IntKind.wrap IntKind.i64 (List.getD l ((0 : Nat) + Int.toNat (↑x : Int)) (0 : Int))) (127 : Int) < (↑(127 : Nat) : Int)) ∧ Int.toNat
  (Int.tmod (IntKind.wrap IntKind.i64 (List.getD l ((0 : Nat) + Int.toNat (↑x : Int)) (0 : Int))) (127 : Int)) < (127 : Nat) ∧ ((0 : Int) ≤ Int.tmod (IntKind.wrap IntKind.i64 (List.getD l ((0 : Nat) + Int.toNat (↑x : Int))
  (0 : Int))) (127 : Int) ∧ Int.tmod (IntKind.wrap IntKind.i64 (List.getD l ((0 : Nat) + Int.toNat (↑x : Int)) (0 : Int))) (127 : Int) < (↑(127 : Nat) : Int)) ∧ Int.toNat (Int.tmod (IntKind.wrap IntKind.i64 (List.getD l ((0
  : Nat) + Int.toNat (↑x : Int)) (0 : Int))) (127 : Int)) < (127 : Nat)) ∧ ∃ (y : Nat), ((0 : Nat) = (0 : Nat) ∧ n = n ∧ (0 : Nat) = (0 : Nat) ∧ (0 : Nat) = (0 : Nat) ∧ IntKind.wrap IntKind.i64 ((↑x : Int) + (1 : Int)) =
  (↑y : Int) ∧ l = l ∧ true = true ∧ (List.set (spoilF w (List.take x l)) (Int.toNat (Int.tmod (IntKind.wrap IntKind.i64 (List.getD l ((0 : Nat) + Int.toNat (↑x : Int)) (0 : Int))) (127 : Int))) !List.getD (spoilF w
  (List.take x l)) (Int.toNat (Int.tmod (IntKind.wrap IntKind.i64 (List.getD l ((0 : Nat) + Int.toNat (↑x : Int)) (0 : Int))) (127 : Int))) false) = spoilF w (List.take y l) ∧ false = false ∧ false :: List.replicate
  (nat_lit 126) false = List.replicate (127 : Nat) false ∧ false = false) ∧ y ≤ n ∧ n - y < n - x else spoilF w (List.take x l) = spoilF w l ∧ l = l ∧ true = true
theorem vc69 (w : List Bool) (n : Nat) (l : List Int) : P69 w n l = vcFun C69 (ann69 w n l) Go.Proofs.Tryd.f34 [⟨.arr 127 .bool, w⟩, ⟨.ref .slice, .slice 0 (.int .u8) [] 0 n⟩] [⟨true, false, .int .u8, l⟩] (out69 w n l) := by kernel_rfl

noncomputable def C70 : Ctx := ⟨Go.Proofs.Tryd.prog, D, G69, (fun _ _ => none), fun _ => []⟩
def ann70 (n : Nat) (l : List Int) : Nat → St → Option Ann := fun _ _ => some ⟨Nat, [0, 2, 3], [0, 1], fun i => [(4, .v (.int .i64) (i : Int))], fun i => [(2, some ⟨false, true, .arr 127 .bool, [holesF (l.take i)]⟩)], fun i => i ≤ n, fun i => n - i⟩
def out70 (n : Nat) (l : List Int) : COut := ⟨[n = l.length ∧ n ≤ 1000000], .v (.arr 127 .bool) (holesF l), [], []⟩
def sp70 : Spec := fun args ins => match args, ins with
  | [⟨.ref .slice, .slice 0 (.int .u8) [] 0 n⟩], [⟨true, false, .int .u8, l⟩] => some (out70 n l)
  | _, _ => none
def G70 := addG G69 35 sp70
def P70 (n : Nat) (l : List Int) : Prop :=
  ∃ (x : Nat), (((0 : Nat) = (0 : Nat) ∧ n = n ∧ (0 : Nat) = (0 : Nat) ∧ (0 : Nat) = (0 : Nat) ∧ (0 : Int) = (↑x : Int) ∧ l = l ∧ true = true ∧ false :: List.replicate (nat_lit 126) false = List.replicate (127 : Nat) false
  ∧ false = false ∧ false :: List.replicate (nat_lit 126) false = holesF (List.take x l) ∧ false = false) ∧ x ≤ n) ∧ ∀ (x : Nat), x ≤ n → (IntKind.min IntKind.i64 ≤ (↑x : Int) ∧ (↑x : Int) ≤ IntKind.max IntKind.i64 ∧ ∀ (y :
  List Bool), List.Mem y [holesF (List.take x l)] → List.length y = (127 : Nat) ∧ ∀ (y_1 : Bool), List.Mem y_1 y → True) → bif decide ((↑x : Int) < (↑n : Int)) then (((0 : Int) ≤ (↑x : Int) ∧ (↑x : Int) < (↑n : Int)) ∧ (0 :
  Nat) + Int.toNat (↑x : Int) < List.length l ∧ (127 : Int) ≠ (0 : Int) ∧ ((0 : Int) ≤ Int.tmod (IntKind.wrap IntKind.i64 (List.getD l ((0 : Nat) + Int.toNat (↑x : Int)) (0 : Int))) (127 : Int) ∧ Int.tmod (IntKind.wrap
  IntKind.i64 (List.getD l ((0 : Nat) + Int.toNat (↑x : Int)) (0 : Int))) (127 : Int) < (↑(127 : Nat) : Int)) ∧ Int.toNat (Int.tmod (IntKind.wrap IntKind.i64 (List.getD l ((0 : Nat) + Int.toNat (↑x : Int)) (0 : Int))) (127
  : Int)) < (127 : Nat)) ∧ ∃ (y : Nat), ((0 : Nat) = (0 : Nat) ∧ n = n ∧ (0 : Nat) = (0 : Nat) ∧ (0 : Nat) = (0 : Nat) ∧ IntKind.wrap IntKind.i64 ((↑x : Int) + (1 : Int)) = (↑y : Int) ∧ l = l ∧ true = true ∧ false ::
  List.replicate (nat_lit 126) false = List.replicate (127 : Nat) false ∧ false = false ∧ List.set (holesF (List.take x l)) (Int.toNat (Int.tmod (IntKind.wrap IntKind.i64 (List.getD l ((0 : Nat) + Int.toNat (↑x : Int)) (0 :
  Int))) (127 : Int))) true = holesF (List.take y l) ∧ false = false) ∧ y ≤ n ∧ n - y < n - x else holesF (List.take x l) = holesF l ∧ l = l ∧ true = true
theorem vc70 (n : Nat) (l : List Int) : P70 n l = vcFun C70 (ann70 n l) Go.Proofs.Tryd.f35 [⟨.ref .slice, .slice 0 (.int .u8) [] 0 n⟩] [⟨true, false, .int .u8, l⟩] (out70 n l) := by kernel_rfl

end Go.SL.A

/- Words. -/
namespace Go.SL.A
open Go Go.SL Go.SL.S
set_option maxRecDepth 100000

theorem hw109 {a b : List Bool} (hw : Go.SL.allP (List.flatMap (fun a : AV => a.t.wf a.x) [⟨.arr 127 .bool, a⟩, ⟨.arr 127 .bool, b⟩] ++ List.flatMap Blk.wf [])) : a.length = 127 ∧ b.length = 127 := by
  simp only [List.flatMap_cons, List.flatMap_nil, Ty.wf, List.append_nil, List.cons_append, List.nil_append, Go.SL.allP] at hw
  exact ⟨hw.1, hw.2.2.1⟩
theorem hw107 {a b : List Bool} {c : Bool} (hw : Go.SL.allP (List.flatMap (fun a : AV => a.t.wf a.x) [⟨.arr 127 .bool, a⟩, ⟨.arr 127 .bool, b⟩, ⟨.bool, c⟩] ++ List.flatMap Blk.wf [])) : a.length = 127 ∧ b.length = 127 := by
  simp only [List.flatMap_cons, List.flatMap_nil, Ty.wf, List.append_nil, List.cons_append, List.nil_append, Go.SL.allP] at hw
  exact ⟨hw.1, hw.2.2.1⟩
theorem hw108 {a : List Bool} (hw : Go.SL.allP (List.flatMap (fun a : AV => a.t.wf a.x) [⟨.arr 127 .bool, a⟩] ++ List.flatMap Blk.wf [])) : a.length = 127 := by
  simp only [List.flatMap_cons, List.flatMap_nil, Ty.wf, List.append_nil, List.cons_append, List.nil_append, Go.SL.allP] at hw
  exact hw.1
theorem hw74 {a b c : List Bool} (hw : Go.SL.allP (List.flatMap (fun a : AV => a.t.wf a.x) [⟨.arr 127 .bool, a⟩, ⟨.arr 127 .bool, b⟩, ⟨.arr 127 .bool, c⟩] ++ List.flatMap Blk.wf [])) : a.length = 127 ∧ b.length = 127 ∧ c.length = 127 := by
  simp only [List.flatMap_cons, List.flatMap_nil, Ty.wf, List.append_nil, List.cons_append, List.nil_append, Go.SL.allP] at hw
  exact ⟨hw.1, hw.2.2.1, hw.2.2.2.2.1⟩
theorem hw69 {w : List Bool} {n : Nat} {l : List Int} (hw : Go.SL.allP (List.flatMap (fun a : AV => a.t.wf a.x) [⟨.arr 127 .bool, w⟩, ⟨.ref .slice, .slice 0 (.int .u8) [] 0 n⟩] ++ List.flatMap Blk.wf [⟨true, false, .int .u8, l⟩])) : w.length = 127 ∧ ∀ x ∈ l, 0 ≤ x ∧ x ≤ 255 := by
  simp only [List.flatMap_cons, List.flatMap_nil, Ty.wf, Blk.wf, List.append_nil, List.cons_append, List.nil_append, Go.SL.allP] at hw
  exact ⟨hw.1, fun x hx => hw.2.2 x hx⟩
theorem hw70 {n : Nat} {l : List Int} (hw : Go.SL.allP (List.flatMap (fun a : AV => a.t.wf a.x) [⟨.ref .slice, .slice 0 (.int .u8) [] 0 n⟩] ++ List.flatMap Blk.wf [⟨true, false, .int .u8, l⟩])) : ∀ x ∈ l, 0 ≤ x ∧ x ≤ 255 := by
  simp only [List.flatMap_cons, List.flatMap_nil, Ty.wf, Blk.wf, List.append_nil, List.cons_append, List.nil_append, Go.SL.allP] at hw
  exact fun x hx => hw x hx

theorem cn_fit (p : Nat → Bool) : ∀ n, cn n p ≤ n
  | 0 => Nat.le_refl _
  | n + 1 => by have := cn_fit p n; rw [cn]; split <;> omega

theorem keep_step {α : Type} {s f : List α} {k : Nat} (d : α) (hs : k < s.length) (hf : k < f.length) (h : s.getD k d = f.getD k d) : s.take k ++ f.drop k = s.take (k + 1) ++ f.drop (k + 1) := by
  rw [List.drop_eq_getElem_cons hf, take_snoc' d hs, List.append_assoc, h, List.getD_eq_getElem?_getD, List.getElem?_eq_getElem hf]; rfl

theorem pure109 (a b : List Bool) (hl : a.length = 127 ∧ b.length = 127) : P109 a b := by
  unfold P109
  simp only [eq_self, true_and, and_true, Int.toNat_natCast]
  refine ⟨0, ⟨⟨rfl, rfl⟩, by omega⟩, fun i hi _ => ?_⟩
  by_cases h : (i : Int) < 127
  · simp only [h, decide_true, cond_true]
    have hf := cn_fit (fun i => bw a i != bw b i) i
    have hs : neqN a b (i + 1) = neqN a b i + (if (bw a i != bw b i) then 1 else 0) := rfl
    have hn : neqN a b i = cn i (fun i => bw a i != bw b i) := rfl
    have hb : (!(a.getD i false == b.getD i false)) = (bw a i != bw b i) := rfl
    rw [hb]
    refine ⟨⟨⟨by omega, by omega⟩, by omega, ⟨by omega, by omega⟩, by omega⟩, ?_⟩
    cases hc : (bw a i != bw b i) with
    | true =>
      rw [hc, if_pos rfl] at hs
      simp only [cond_true]
      exact ⟨i + 1, ⟨by rw [w64 (by omega) (by omega)]; omega, step_i (by omega)⟩, by omega, by omega⟩
    | false =>
      rw [hc, if_neg (by simp)] at hs
      simp only [cond_false]
      exact ⟨i + 1, ⟨by omega, step_i (by omega)⟩, by omega, by omega⟩
  · have : i = 127 := by omega
    subst this
    simp only [h, decide_false, cond_false]
    rfl

theorem pure73 (h : List Bool) : P73 h := by
  unfold P73; rfl

theorem fillB_len (w h c : List Bool) : (fillB w h c).length = 127 := by simp [fillB]
theorem fillB_at (w h c : List Bool) {i : Nat} (hi : i < 127) : (fillB w h c)[i]? = some (if bw h i then bw c i else bw w i) := by
  unfold fillB; rw [List.getElem?_map, List.getElem?_range hi]; rfl
theorem fillB_bw (w h c : List Bool) {i : Nat} (hi : i < 127) : bw (fillB w h c) i = if bw h i then bw c i else bw w i := by
  unfold bw; rw [List.getD_eq_getElem?_getD, fillB_at w h c hi]; rfl
theorem rep_bw (c : Bool) {i : Nat} (hi : i < 127) : bw (List.replicate 127 c) i = c := by
  unfold bw; rw [List.getD_eq_getElem?_getD, List.getElem?_replicate, if_pos hi]; rfl
theorem fill_set {w h c : List Bool} (hl : w.length = 127) {i : Nat} (hi : i < 127) (hh : bw h i = true) : List.set ((fillB w h c).take i ++ w.drop i) i (bw c i) = (fillB w h c).take (i + 1) ++ w.drop (i + 1) :=
  set_step (by rw [fillB_len]; exact hi) (by omega) (by rw [fillB_at w h c hi, hh]; rfl)
theorem fill_keep {w h c : List Bool} (hl : w.length = 127) {i : Nat} (hi : i < 127) (hh : bw h i = false) : (fillB w h c).take i ++ w.drop i = (fillB w h c).take (i + 1) ++ w.drop (i + 1) :=
  keep_step false (by rw [fillB_len]; exact hi) (by omega) (by
    have := fillB_bw w h c hi
    rw [hh] at this; exact this)
theorem fill_end {w h c : List Bool} (hl : w.length = 127) : (fillB w h c).take 127 ++ w.drop 127 = fillB w h c := by
  rw [List.take_of_length_le (by rw [fillB_len]; omega), List.drop_eq_nil_of_le (by omega), List.append_nil]

theorem pure107 (w h : List Bool) (c : Bool) (hl : w.length = 127 ∧ h.length = 127) : P107 w h c := by
  unfold P107
  have hz : false :: List.replicate 126 false = List.replicate 127 false := rfl
  simp only [eq_self, true_and, and_true, Int.toNat_natCast, hz]
  refine ⟨0, ⟨⟨rfl, rfl⟩, by omega⟩, fun i hi _ => ?_⟩
  by_cases hi2 : (i : Int) < 127
  · simp only [hi2, decide_true, cond_true]
    have hh : h.getD i false = bw h i := rfl
    rw [hh]
    refine ⟨⟨⟨by omega, by omega⟩, by omega⟩, ?_⟩
    cases hb : bw h i with
    | true =>
      simp only [cond_true]
      have := fill_set (c := List.replicate 127 c) hl.1 (show i < 127 by omega) hb
      rw [rep_bw c (by omega)] at this
      exact ⟨⟨⟨by omega, by omega⟩, by omega⟩, i + 1, ⟨step_i (by omega), this⟩, by omega, by omega⟩
    | false =>
      simp only [cond_false]
      exact ⟨i + 1, ⟨step_i (by omega), fill_keep hl.1 (by omega) hb⟩, by omega, by omega⟩
  · have : i = 127 := by omega
    subst this
    simp only [hi2, decide_false, cond_false]
    exact fill_end hl.1

theorem infTo_fit (w : List Bool) : ∀ n, 0 ≤ infTo w n ∧ infTo w n < 2 ^ n
  | 0 => by simp [infTo]
  | n + 1 => by
    have := infTo_fit w n
    have e : (2 : Int) ^ (n + 1) = 2 ^ n + 2 ^ n := by rw [Int.pow_succ]; omega
    rw [infTo, e]
    split <;> omega

theorem or_pow {a : Int} {i : Nat} (h0 : 0 ≤ a) (h : a < 2 ^ i) (hi : i < 64) : ior .u64 a (ishl .u64 1 (i : Int)) = a + 2 ^ i := by
  obtain ⟨n, rfl⟩ : ∃ n : Nat, a = n := ⟨a.toNat, by omega⟩
  have hp : (2 : Int) ^ i = ((2 ^ i : Nat) : Int) := by simp
  rw [hp] at h ⊢
  have hn : n < 2 ^ i := by omega
  have h63 : 2 ^ i ≤ 2 ^ 63 := Nat.pow_le_pow_right (by decide) (by omega)
  have e63 : (2 : Nat) ^ 63 = 9223372036854775808 := by decide
  have wr : ∀ m : Nat, m < 18446744073709551616 → IntKind.u64.wrap (m : Int) = m := fun m hm => by
    have : IntKind.u64.wrap (m : Int) = (m : Int) % 18446744073709551616 := by simp [IntKind.wrap, IntKind.bits, IntKind.signed]
    rw [this]; omega
  have hs : ishl .u64 1 (i : Int) = ((2 ^ i : Nat) : Int) := by
    have : i = 0 ∨ i = 1 ∨ i = 2 ∨ i = 3 ∨ i = 4 ∨ i = 5 ∨ i = 6 ∨ i = 7 ∨ i = 8 ∨ i = 9 ∨ i = 10 ∨ i = 11 ∨ i = 12 ∨ i = 13 ∨ i = 14 ∨ i = 15 ∨ i = 16 ∨ i = 17 ∨ i = 18 ∨ i = 19 ∨ i = 20 ∨ i = 21 ∨ i = 22 ∨ i = 23 ∨ i = 24 ∨ i = 25 ∨ i = 26 ∨ i = 27 ∨ i = 28 ∨ i = 29 ∨ i = 30 ∨ i = 31 ∨ i = 32 ∨ i = 33 ∨ i = 34 ∨ i = 35 ∨ i = 36 ∨ i = 37 ∨ i = 38 ∨ i = 39 ∨ i = 40 ∨ i = 41 ∨ i = 42 ∨ i = 43 ∨ i = 44 ∨ i = 45 ∨ i = 46 ∨ i = 47 ∨ i = 48 ∨ i = 49 ∨ i = 50 ∨ i = 51 ∨ i = 52 ∨ i = 53 ∨ i = 54 ∨ i = 55 ∨ i = 56 ∨ i = 57 ∨ i = 58 ∨ i = 59 ∨ i = 60 ∨ i = 61 ∨ i = 62 ∨ i = 63 := by omega
    have all : ((List.range 64).all fun i : Nat => decide (ishl .u64 1 (i : Int) = ((2 ^ i : Nat) : Int))) = true := by decide +kernel
    exact of_decide_eq_true (List.all_eq_true.1 all i (List.mem_range.2 hi))
  rw [hs]
  unfold ior
  have hor : (BitVec.ofInt IntKind.u64.bits (n : Int) ||| BitVec.ofInt IntKind.u64.bits ((2 ^ i : Nat) : Int)).toNat = n ||| 2 ^ i := by
    rw [BitVec.toNat_or, BitVec.ofInt_natCast, BitVec.ofInt_natCast, BitVec.toNat_ofNat, BitVec.toNat_ofNat]
    have e : (2 : Nat) ^ IntKind.u64.bits = 18446744073709551616 := by decide
    rw [e, Nat.mod_eq_of_lt (by omega), Nat.mod_eq_of_lt (by omega)]
  have hadd : n ||| 2 ^ i = n + 2 ^ i := by
    have := Nat.two_pow_add_eq_or_of_lt hn 1
    rw [Nat.mul_one] at this
    rw [Nat.or_comm, ← this, Nat.add_comm]
  rw [hor, hadd, wr _ (by omega)]
  omega

theorem pure108 (w : List Bool) (hl : w.length = 127) : P108 w := by
  unfold P108
  simp only [eq_self, true_and, and_true, Int.toNat_natCast]
  refine ⟨0, ⟨⟨rfl, rfl⟩, by omega⟩, fun i hi _ => ?_⟩
  by_cases h : (i : Int) < 64
  · simp only [h, decide_true, cond_true]
    rw [w64 (n := 63 + (i : Int)) (by omega) (by omega)]
    have e : (63 + (i : Int)).toNat = 63 + i := by omega
    rw [e]
    have hf := infTo_fit w i
    have hs : infTo w (i + 1) = infTo w i + (if bw w (63 + i) then 2 ^ i else 0) := rfl
    have hb : w.getD (63 + i) false = bw w (63 + i) := rfl
    rw [hb]
    refine ⟨⟨⟨by omega, by omega⟩, by omega⟩, ?_⟩
    cases hc : bw w (63 + i) with
    | true =>
      rw [hc, if_pos rfl] at hs
      simp only [cond_true]
      exact ⟨by omega, i + 1, ⟨by rw [or_pow hf.1 hf.2 (by omega), hs], step_i (by omega)⟩, by omega, by omega⟩
    | false =>
      rw [hc, if_neg (by simp)] at hs
      simp only [cond_false]
      exact ⟨i + 1, ⟨by rw [hs, Int.add_zero], step_i (by omega)⟩, by omega, by omega⟩
  · have : i = 64 := by omega
    subst this
    simp only [h, decide_false, cond_false]
    rfl

theorem synTo_len (w : List Bool) (i : Nat) : (synTo w i).length = 20 := by simp [synTo]
theorem synTo_at (w : List Bool) (i : Nat) {j : Nat} (h : j < 20) : (synTo w i)[j]? = some (ofE (syP w i (j + 1))) := by
  unfold synTo; rw [List.getElem?_map, List.getElem?_range h]; rfl
theorem synTo_getD (w : List Bool) (i : Nat) {j : Nat} (h : j < 20) : (synTo w i).getD j 0 = ofE (syP w i (j + 1)) := by
  rw [List.getD_eq_getElem?_getD, synTo_at w i h]; rfl
theorem syP_step (w : List Bool) (i k : Nat) : syP w (i + 1) k = syP w i k ^^^ (if bw w i then ex (i * k) else 0) := rfl

theorem mix_getD {α : Type} {s f : List α} {k : Nat} (d : α) (hs : k ≤ s.length) : (s.take k ++ f.drop k).getD k d = f.getD k d := by
  rw [List.getD_eq_getElem?_getD, List.getElem?_append_right (by simp; omega), List.length_take, Nat.min_eq_left hs, Nat.sub_self, List.getElem?_drop, Nat.add_zero, List.getD_eq_getElem?_getD]

theorem synTo_zero (w : List Bool) : (0 : Int) :: List.replicate 19 0 = synTo w 0 := by
  show List.replicate 20 (0 : Int) = _
  unfold synTo
  have : (fun j => ofE (syP w 0 (j + 1))) = fun _ => (0 : Int) := rfl
  rw [this, List.map_const', List.length_range]

theorem pure77 (w : List Bool) (hl : w.length = 127) : P77 w := by
  unfold P77
  have z : 0 :: List.replicate 19 0 = synTo w 0 := synTo_zero w
  simp only [eq_self, true_and, and_true, Int.toNat_natCast, Nat.zero_add]
  refine ⟨by first | omega | trivial, 0, ⟨⟨rfl, z⟩, by first | omega | trivial⟩, fun i hi _ => ?_⟩
  by_cases h : (i : Int) < 127
  · simp only [h, decide_true, cond_true]
    refine ⟨⟨by first | omega | trivial, by first | omega | trivial⟩, 0, ⟨⟨rfl, rfl⟩, by first | omega | trivial⟩, fun j hj _ => ?_⟩
    by_cases hj2 : (j : Int) < ((20 : Nat) : Int)
    · have hj3 : j < 20 := by first | omega | trivial
      have hb : w.getD i false = bw w i := rfl
      have hd : decide ((j : Int) < ((20 : Nat) : Int)) = true := decide_eq_true hj2
      rw [hd, hb]
      rw [cond_true]
      cases hc : bw w i with
      | true =>
        simp only [cond_true]
        rw [w64 (n := (j : Int) + 1) (by first | omega | trivial) (by first | omega | trivial)]
        have hmul : (i : Int) * ((j : Int) + 1) = ((i * (j + 1) : Nat) : Int) := by simp
        have hb1 : i * (j + 1) ≤ 127 * 20 := Nat.mul_le_mul (by first | omega | trivial) (by first | omega | trivial)
        rw [hmul, w64 (n := ((i * (j + 1) : Nat) : Int)) (by first | omega | trivial) (by first | omega | trivial), mix_getD 0 (by rw [synTo_len]; omega), synTo_getD w i hj3]
        have hx : xpI ((i * (j + 1) : Nat) : Int) = ofE (ex (i * (j + 1))) := by
          unfold xpI
          rw [show (((i * (j + 1) : Nat) : Int) % 127).toNat = (i * (j + 1)) % 127 by first | omega | trivial, ex_mod]
        rw [hx, ixor_ofE]
        have hlen : (List.take j (synTo w (i + 1)) ++ List.drop j (synTo w i)).length = 20 := by simp [synTo_len]; omega
        refine ⟨⟨⟨by first | omega | trivial, by first | omega | trivial⟩, by first | omega | trivial, ⟨by first | omega | trivial, by first | omega | trivial⟩, by first | omega | trivial⟩, j + 1, ⟨by first | omega | trivial, set_step (by rw [synTo_len]; exact hj3) (by rw [synTo_len]; exact hj3) ?_⟩, by first | omega | trivial, by first | omega | trivial⟩
        rw [synTo_at w (i + 1) hj3, syP_step, hc, if_pos rfl]
      | false =>
        simp only [cond_false]
        refine ⟨j + 1, ⟨step_i (by first | omega | trivial), keep_step 0 (by rw [synTo_len]; exact hj3) (by rw [synTo_len]; exact hj3) ?_⟩, by first | omega | trivial, by first | omega | trivial⟩
        rw [synTo_getD w _ hj3, synTo_getD w _ hj3, syP_step, hc, if_neg (by simp), xz]
    · have : j = 20 := by first | omega | trivial
      subst this
      simp only [hj2, decide_false, cond_false]
      refine ⟨i + 1, ⟨step_i (by first | omega | trivial), ?_⟩, by first | omega | trivial, by first | omega | trivial⟩
      show List.take 20 (synTo w (i + 1)) ++ List.drop 20 (synTo w i) = _
      rw [List.take_of_length_le (by rw [synTo_len]; omega), List.drop_eq_nil_of_le (by rw [synTo_len]; omega), List.append_nil]
  · have : i = 127 := by first | omega | trivial
    subst this
    simp only [h, decide_false, cond_false]
    unfold synL
    trivial

theorem synL_len (w : List Bool) : (synL w).length = 20 := synTo_len w 127

theorem pure110 (w : List Bool) : P110 w := by
  unfold P110
  have hsl := synL_len w
  simp only [eq_self, true_and, and_true, Int.toNat_natCast, Nat.zero_add]
  refine ⟨0, ⟨rfl, by first | omega | trivial, rfl⟩, fun i hi _ => ?_⟩
  obtain ⟨hi, ha⟩ := hi
  by_cases h : (i : Int) < ((20 : Nat) : Int)
  · simp only [h, decide_true, cond_true]
    have hil : i < (synL w).length := by first | omega | trivial
    refine ⟨⟨⟨by first | omega | trivial, by first | omega | trivial⟩, by first | omega | trivial⟩, ?_⟩
    cases hc : decide ((synL w).getD i 0 = 0) with
    | true =>
      simp only [Bool.not_true, cond_false]
      refine ⟨i + 1, step_i (by first | omega | trivial), ⟨by first | omega | trivial, ?_⟩, by first | omega | trivial⟩
      rw [take_snoc' 0 hil, List.all_append, ha, Bool.true_and]
      simp only [List.all_cons, List.all_nil, Bool.and_true]
      exact hc
    | false =>
      simp only [Bool.not_false, cond_true]
      unfold isB
      symm
      rw [List.all_eq_false]
      exact ⟨_, getD_mem hil, by rw [hc]; simp⟩
  · have : i = 20 := by first | omega | trivial
    subst this
    simp only [h, decide_false, cond_false]
    rw [List.take_of_length_le (by first | omega | trivial)] at ha
    unfold isB; exact ha.symm

theorem dist_fit (a b : List Bool) : 0 ≤ distB a b ∧ distB a b ≤ 127 := by
  have := cn_fit (fun i => bw a i != bw b i) 127
  have e : neqN a b 127 = cn 127 (fun i => bw a i != bw b i) := rfl
  unfold distB; omega

theorem pure74 (w h c : List Bool) (hl : w.length = 127 ∧ h.length = 127 ∧ c.length = 127) : P74 w h c := by
  unfold P74
  simp only [eq_self, true_and, and_true, Int.toNat_natCast]
  refine ⟨0, ⟨⟨rfl, rfl⟩, by first | omega | trivial⟩, fun i hi _ => ?_⟩
  by_cases hi2 : (i : Int) < 127
  · simp only [hi2, decide_true, cond_true]
    have hh : h.getD i false = bw h i := rfl
    have hcc : c.getD i false = bw c i := rfl
    rw [hh, hcc]
    refine ⟨⟨⟨by first | omega | trivial, by first | omega | trivial⟩, by first | omega | trivial⟩, ?_⟩
    cases hb : bw h i with
    | true =>
      simp only [cond_true]
      exact ⟨⟨⟨by first | omega | trivial, by first | omega | trivial⟩, by first | omega | trivial, ⟨by first | omega | trivial, by first | omega | trivial⟩, by first | omega | trivial⟩, i + 1, ⟨step_i (by first | omega | trivial), fill_set hl.1 (show i < 127 by first | omega | trivial) hb⟩, by first | omega | trivial, by first | omega | trivial⟩
    | false =>
      simp only [cond_false]
      exact ⟨i + 1, ⟨step_i (by first | omega | trivial), fill_keep hl.1 (by first | omega | trivial) hb⟩, by first | omega | trivial, by first | omega | trivial⟩
  · have : i = 127 := by first | omega | trivial
    subst this
    simp only [hi2, decide_false, cond_false]
    rw [fill_end hl.1]
    unfold nearB
    have f1 := dist_fit (fillB w h c) c
    have f2 := dist_fit h w127
    cases isB c with
    | true =>
      simp only [cond_true, Bool.true_and]
      rw [w64 (n := 2 * distB (fillB w h c) c) (by first | omega | trivial) (by first | omega | trivial), w64 (by first | omega | trivial) (by first | omega | trivial)]
    | false => simp

theorem pure139 (x : Int) : P139 x := by
  unfold P139
  intro b hb
  refine ⟨by cases b <;> simp, ?_⟩
  unfold badS
  rw [hb]
  cases b <;> simp

theorem pure90d (r : Bool) (n : Nat) (s : List Int) (hn : n = s.length ∧ n ≤ 1000000000) : P90d r n s := by
  obtain ⟨hn, hn2⟩ := hn
  unfold P90d
  simp only [eq_self, true_and, and_true, Int.toNat_natCast, Nat.zero_add]
  refine ⟨0, ⟨rfl, by first | omega | trivial, rfl⟩, fun i hi _ => ?_⟩
  obtain ⟨hi, he⟩ := hi
  by_cases h8 : (i : Int) < (n : Int)
  · have his : i < s.length := by first | omega | trivial
    have ed : s.drop i = s.getD i 0 :: s.drop (i + 1) := by
      rw [List.drop_eq_getElem_cons his, List.getD_eq_getElem?_getD, List.getElem?_eq_getElem his]; rfl
    rw [ed, findIx] at he
    simp only [h8, decide_true, cond_true]
    refine ⟨⟨⟨by first | omega | trivial, by first | omega | trivial⟩, by first | omega | trivial⟩, ?_⟩
    cases hb : badS (s.getD i 0) with
    | true => rw [hb, if_pos rfl] at he; simp only [cond_true]; exact he.symm
    | false =>
      rw [hb, if_neg (by simp)] at he
      simp only [cond_false]
      exact ⟨i + 1, by rw [w64 (by first | omega | trivial) (by first | omega | trivial)]; omega, ⟨by first | omega | trivial, he⟩, by first | omega | trivial⟩
  · have : i = n := by first | omega | trivial
    subst this
    simp only [h8, decide_false, cond_false]
    rw [he, List.drop_eq_nil_of_le (by first | omega | trivial)]; rfl

theorem pure130c (r : Bool) (n : Nat) (s : List Int) (hn : n = s.length ∧ n ≤ 1000000000) : P130c r n s := by
  unfold P130c
  simp only [eq_self, and_true]
  exact ⟨hn, findIx_sign badS s 0⟩

theorem pure112 (r : Bool) (n : Nat) (s : List Int) (hn : n = s.length ∧ n ≤ 1000000000) : P112 r n s := by
  unfold P112
  simp only [eq_self, and_true]
  unfold rightS
  rw [← hn.1]
  cases hb : decide ((n : Int) = 20) with
  | true => simp only [cond_true, Bool.true_and]; exact ⟨⟨by first | omega | trivial, hn.2⟩, trivial⟩
  | false => simp

theorem pure117 (r1 r2 : Bool) (n m : Nat) (a b : List Int) (hp : n = a.length ∧ n ≤ 1000000000 ∧ m = b.length ∧ m ≤ 1000000000) : P117 r1 r2 n m a b := by
  obtain ⟨h1, h2, h3, h4⟩ := hp
  unfold P117
  simp only [eq_self, and_true, Int.toNat_natCast, Nat.zero_add, true_and]
  cases hb : decide ((n : Int) = (m : Int)) with
  | false =>
    have hne : n ≠ m := fun e => by simp [e] at hb
    simp only [Bool.not_false, cond_true]
    exact (decide_eq_false fun e => hne (by rw [h1, h3, e])).symm
  | true =>
    have hnm : (n : Int) = (m : Int) := of_decide_eq_true hb
    simp only [Bool.not_true, cond_false]
    refine ⟨0, ⟨rfl, by first | omega | trivial, rfl⟩, fun i hi _ => ?_⟩
    obtain ⟨hi, he⟩ := hi
    by_cases h8 : (i : Int) < (n : Int)
    · simp only [h8, decide_true, cond_true]
      have ha : i < a.length := by first | omega | trivial
      have hb : i < b.length := by first | omega | trivial
      refine ⟨⟨⟨by first | omega | trivial, trivial⟩, by first | omega | trivial, ⟨by first | omega | trivial, by first | omega | trivial⟩, by first | omega | trivial⟩, ?_⟩
      cases hc : decide (a.getD i 0 = b.getD i 0) with
      | false =>
        simp only [Bool.not_false, cond_true]
        exact (decide_eq_false fun e => by rw [e] at hc; simp at hc).symm
      | true =>
        simp only [Bool.not_true, cond_false]
        refine ⟨i + 1, by rw [w64 (by first | omega | trivial) (by first | omega | trivial)]; omega, ⟨by first | omega | trivial, ?_⟩, by first | omega | trivial⟩
        rw [take_snoc' 0 ha, take_snoc' 0 hb, he, of_decide_eq_true hc]
    · have : i = n := by first | omega | trivial
      subst this
      simp only [h8, decide_false, cond_false]
      rw [List.take_of_length_le (by first | omega | trivial), List.take_of_length_le (by first | omega | trivial)] at he
      exact (decide_eq_true he).symm

theorem seg_all {α : Type} {s : List α} {n : Nat} (h : n = s.length) : seg s 0 n = s := by
  unfold seg; rw [List.drop_zero, List.take_of_length_le (by omega)]

theorem pure141 (n : Nat) (s : List Int) (hp : n = s.length ∧ 0 < n ∧ n ≤ 1000) : P141 n s := by
  obtain ⟨h1, h2, h3⟩ := hp
  unfold P141
  rw [seg_all h1]
  simp only [eq_self, true_and, and_true, Nat.zero_add]
  exact ⟨h2, ⟨by omega, by omega⟩, h1.symm⟩

theorem farTo6_fit (w h c : List Bool) : ∀ n, 0 ≤ farTo6 w h c n ∧ farTo6 w h c n ≤ 2 * (n : Int)
  | 0 => by simp [farTo6]
  | n + 1 => by
    have := farTo6_fit w h c n
    rw [farTo6]
    split
    · omega
    · split <;> omega

theorem pure72 (w h c : List Bool) : P72 w h c := by
  unfold P72
  simp only [eq_self, true_and, and_true, Int.toNat_natCast]
  refine ⟨0, ⟨⟨rfl, rfl⟩, by omega⟩, fun i hi _ => ?_⟩
  by_cases hi2 : (i : Int) < 127
  · simp only [hi2, decide_true, cond_true]
    have hh : h.getD i false = bw h i := rfl
    have hcc : (!(w.getD i false == c.getD i false)) = (!(bw w i == bw c i)) := rfl
    have hf := farTo6_fit w h c i
    have hs : farTo6 w h c (i + 1) = farTo6 w h c i + (if bw h i then 1 else if bw w i = bw c i then 0 else 2) := rfl
    rw [hh, hcc]
    refine ⟨⟨⟨by first | omega | trivial, by first | omega | trivial⟩, by first | omega | trivial⟩, ?_⟩
    cases hb : bw h i with
    | true =>
      rw [hb, if_pos rfl] at hs
      simp only [cond_true]
      exact ⟨i + 1, ⟨by rw [w64 (by omega) (by omega), hs], step_i (by omega)⟩, by omega, by omega⟩
    | false =>
      rw [hb, if_neg (by simp)] at hs
      simp only [cond_false]
      refine ⟨⟨⟨by first | omega | trivial, by first | omega | trivial⟩, by first | omega | trivial, ⟨by first | omega | trivial, by first | omega | trivial⟩, by first | omega | trivial⟩, ?_⟩
      by_cases he : bw w i = bw c i
      · rw [if_pos he] at hs
        rw [he, beq_self_eq_true, Bool.not_true, cond_false]
        exact ⟨i + 1, ⟨by rw [hs, Int.add_zero], step_i (by omega)⟩, by omega, by omega⟩
      · rw [if_neg he] at hs
        have : (!(bw w i == bw c i)) = true := by cases h1 : bw w i <;> cases h2 : bw c i <;> simp_all
        rw [this, cond_true]
        exact ⟨i + 1, ⟨by rw [w64 (by omega) (by omega), hs], step_i (by omega)⟩, by omega, by omega⟩
  · have : i = 127 := by omega
    subst this
    simp only [hi2, decide_false, cond_false]
    rfl

theorem tm127 {x : Int} (h : 0 ≤ x ∧ x ≤ 255) : 0 ≤ x.tmod 127 ∧ x.tmod 127 < 127 ∧ (x.tmod 127).toNat = x.toNat % 127 := by
  have d := tdm x (k := 127) (by decide)
  omega

theorem spoil_snoc (w : List Bool) (l : List Int) (x : Int) : spoilF w (l ++ [x]) = (spoilF w l).set (x.toNat % 127) (!(bw (spoilF w l) (x.toNat % 127))) := by
  unfold spoilF; rw [List.foldl_append]; rfl
theorem holes_snoc (l : List Int) (x : Int) : holesF (l ++ [x]) = (holesF l).set (x.toNat % 127) true := by
  unfold holesF; rw [List.foldl_append]; rfl

theorem pure69 (w : List Bool) (n : Nat) (l : List Int) (hp : n = l.length ∧ n ≤ 1000000) (hw : w.length = 127 ∧ ∀ x ∈ l, 0 ≤ x ∧ x ≤ 255) : P69 w n l := by
  obtain ⟨h1, h2⟩ := hp
  unfold P69
  simp only [eq_self, true_and, and_true, Int.toNat_natCast, Nat.zero_add]
  refine ⟨0, ⟨⟨rfl, rfl, rfl⟩, by omega⟩, fun i hi _ => ?_⟩
  by_cases hi2 : (i : Int) < (n : Int)
  · have hil : i < l.length := by omega
    have hx := hw.2 _ (getD_mem (d := 0) hil)
    obtain ⟨t1, t2, t3⟩ := tm127 hx
    simp only [hi2, decide_true, cond_true]
    rw [w64 (n := l.getD i 0) (by omega) (by omega), t3]
    refine ⟨⟨⟨by first | omega | trivial, by first | omega | trivial⟩, by first | omega | trivial, by decide, ⟨by first | omega | trivial, by first | omega | trivial⟩, by first | omega | trivial, by decide, ⟨by first | omega | trivial, by first | omega | trivial⟩, by first | omega | trivial, ⟨by first | omega | trivial, by first | omega | trivial⟩, by first | omega | trivial⟩, i + 1, ⟨step_i (by omega), ?_⟩, by omega, by omega⟩
    rw [take_snoc' 0 hil, spoil_snoc]
    exact ⟨rfl, rfl⟩
  · have : i = n := by omega
    subst this
    simp only [hi2, decide_false, cond_false]
    rw [List.take_of_length_le (by omega)]

theorem pure70 (n : Nat) (l : List Int) (hp : n = l.length ∧ n ≤ 1000000) (hw : ∀ x ∈ l, 0 ≤ x ∧ x ≤ 255) : P70 n l := by
  obtain ⟨h1, h2⟩ := hp
  unfold P70
  simp only [eq_self, true_and, and_true, Int.toNat_natCast, Nat.zero_add]
  refine ⟨0, ⟨⟨rfl, rfl, rfl⟩, by omega⟩, fun i hi _ => ?_⟩
  by_cases hi2 : (i : Int) < (n : Int)
  · have hil : i < l.length := by omega
    have hx := hw _ (getD_mem (d := 0) hil)
    obtain ⟨t1, t2, t3⟩ := tm127 hx
    simp only [hi2, decide_true, cond_true]
    rw [w64 (n := l.getD i 0) (by omega) (by omega), t3]
    refine ⟨⟨⟨by first | omega | trivial, by first | omega | trivial⟩, by first | omega | trivial, by decide, ⟨by first | omega | trivial, by first | omega | trivial⟩, by first | omega | trivial⟩, i + 1, ⟨step_i (by omega), rfl, ?_⟩, by omega, by omega⟩
    rw [take_snoc' 0 hil, holes_snoc]
  · have : i = n := by omega
    subst this
    simp only [hi2, decide_false, cond_false]
    rw [List.take_of_length_le (by omega)]
end Go.SL.A

/- Functions do what they are held to do. -/
namespace Go.SL.A
open Go Go.SL Go.SL.S
theorem snd109 : Sound Go.Proofs.Tryd.prog G109 := snd115.add ⟨_, Go.Proofs.Tryd.func118, by kernel_rfl, by kernel_rfl⟩ (by
  intro args ins out h hp
  unfold sp109 at h
  split at h
  · rename_i a b
    cases h
    exact vcFun_ok (C := C109) good snd115 Meth.none mix Go.Proofs.Tryd.func118 (ann109 a b) (fun hw => by rw [← vc109 a b]; exact pure109 a b (hw109 hw))
  · cases h)

theorem snd73 : Sound Go.Proofs.Tryd.prog G73 := snd109.add ⟨_, Go.Proofs.Tryd.func119, by kernel_rfl, by kernel_rfl⟩ (by
  intro args ins out h hp
  unfold sp73 at h
  split at h
  · rename_i h
    cases h
    exact vcFun_ok (C := C73) good snd109 Meth.none mix Go.Proofs.Tryd.func119 (ann73 h) (fun hw => by rw [← vc73 h]; exact pure73 h)
  · cases h)

theorem snd107 : Sound Go.Proofs.Tryd.prog G107 := snd73.add ⟨_, Go.Proofs.Tryd.func87, by kernel_rfl, by kernel_rfl⟩ (by
  intro args ins out h hp
  unfold sp107 at h
  split at h
  · rename_i w h c
    cases h
    exact vcFun_ok (C := C107) good snd73 Meth.none mix Go.Proofs.Tryd.func87 (ann107 w h c) (fun hw => by rw [← vc107 w h c]; exact pure107 w h c (hw107 hw))
  · cases h)

theorem snd108 : Sound Go.Proofs.Tryd.prog G108 := snd107.add ⟨_, Go.Proofs.Tryd.func90, by kernel_rfl, by kernel_rfl⟩ (by
  intro args ins out h hp
  unfold sp108 at h
  split at h
  · rename_i w
    cases h
    exact vcFun_ok (C := C108) good snd107 Meth.none mix Go.Proofs.Tryd.func90 (ann108 w) (fun hw => by rw [← vc108 w]; exact pure108 w (hw108 hw))
  · cases h)

theorem snd77 : Sound Go.Proofs.Tryd.prog G77 := snd108.add ⟨_, Go.Proofs.Tryd.func86, by kernel_rfl, by kernel_rfl⟩ (by
  intro args ins out h hp
  unfold sp77 at h
  split at h
  · rename_i w
    cases h
    exact vcFun_ok (C := C77) good snd108 Meth.none mix Go.Proofs.Tryd.func86 (ann77 w) (fun hw => by rw [← vc77 w]; exact pure77 w (hw108 hw))
  · cases h)

theorem snd110 : Sound Go.Proofs.Tryd.prog G110 := snd77.add ⟨_, Go.Proofs.Tryd.func71, by kernel_rfl, by kernel_rfl⟩ (by
  intro args ins out h hp
  unfold sp110 at h
  split at h
  · rename_i w
    cases h
    exact vcFun_ok (C := C110) good snd77 Meth.none mix Go.Proofs.Tryd.func71 (ann110 w) (fun hw => by rw [← vc110 w]; exact pure110 w)
  · cases h)

theorem snd74 : Sound Go.Proofs.Tryd.prog G74 := snd110.add ⟨_, Go.Proofs.Tryd.func89, by kernel_rfl, by kernel_rfl⟩ (by
  intro args ins out h hp
  unfold sp74 at h
  split at h
  · rename_i w h c
    cases h
    exact vcFun_ok (C := C74) good snd110 Meth.none mix Go.Proofs.Tryd.func89 (ann74 w h c) (fun hw => by rw [← vc74 w h c]; exact pure74 w h c (hw74 hw))
  · cases h)

theorem snd139 : Sound Go.Proofs.Tryd.prog G139 := snd74.add ⟨_, Go.Proofs.Tryd.func131, by kernel_rfl, by kernel_rfl⟩ (by
  intro args ins out h hp
  unfold sp139 at h
  split at h
  · rename_i x
    cases h
    exact vcFun_ok (C := C139) good snd74 Meth.none mix Go.Proofs.Tryd.func131 (ann139 x) (fun hw => by rw [← vc139 x]; exact pure139 x)
  · cases h)

theorem snd90d : Sound Go.Proofs.Tryd.prog G90d := snd139.addM ⟨_, Go.Proofs.Tryd.func68, by kernel_rfl, by kernel_rfl⟩ (by
  intro args ins out h hp
  unfold sp90d at h
  split at h
  · rename_i n r s
    cases h
    exact vcFun_ok (C := C90d) good snd139 Meth.none mix Go.Proofs.Tryd.func68 (ann90d r n s) (fun hw => by rw [← vc90d r n s]; exact pure90d r n s hp)
  · cases h)

theorem snd130c : Sound Go.Proofs.Tryd.prog G130c := snd90d.addM ⟨_, Go.Proofs.Tryd.func102, by kernel_rfl, by kernel_rfl⟩ (by
  intro args ins out h hp
  unfold sp130c at h
  split at h
  · rename_i n r s
    cases h
    exact vcFun_ok (C := C130c) good snd90d Meth.none mix Go.Proofs.Tryd.func102 (ann130c r n s) (fun hw => by rw [← vc130c r n s]; exact pure130c r n s hp)
  · cases h)

theorem snd112 : Sound Go.Proofs.Tryd.prog G112 := snd130c.add ⟨_, Go.Proofs.Tryd.func114, by kernel_rfl, by kernel_rfl⟩ (by
  intro args ins out h hp
  unfold sp112 at h
  split at h
  · rename_i n r s
    cases h
    exact vcFun_ok (C := C112) good snd130c Meth.none mix Go.Proofs.Tryd.func114 (ann112 r n s) (fun hw => by rw [← vc112 r n s]; exact pure112 r n s hp)
  · cases h)

theorem snd117 : Sound Go.Proofs.Tryd.prog G117 := snd112.add ⟨_, Go.Proofs.Tryd.func117, by kernel_rfl, by kernel_rfl⟩ (by
  intro args ins out h hp
  unfold sp117 at h
  split at h
  · rename_i n m r1 a r2 b
    cases h
    exact vcFun_ok (C := C117) good snd112 Meth.none mix Go.Proofs.Tryd.func117 (ann117 r1 r2 n m a b) (fun hw => by rw [← vc117 r1 r2 n m a b]; exact pure117 r1 r2 n m a b hp)
  · cases h)

theorem snd141 : Sound Go.Proofs.Tryd.prog G141 := snd117.add ⟨_, Go.Proofs.Tryd.func133, by kernel_rfl, by kernel_rfl⟩ (by
  intro args ins out h hp
  unfold sp141 at h
  split at h
  · rename_i n s
    cases h
    exact vcFun_ok (C := C141) good snd117 Meth.none mix Go.Proofs.Tryd.func133 (ann141 n s) (fun hw => by rw [← vc141 n s]; exact pure141 n s hp)
  · cases h)

theorem snd72 : Sound Go.Proofs.Tryd.prog G72 := snd141.add ⟨_, Go.Proofs.Tryd.func37, by kernel_rfl, by kernel_rfl⟩ (by
  intro args ins out h hp
  unfold sp72 at h
  split at h
  · rename_i w h c
    cases h
    exact vcFun_ok (C := C72) good snd141 Meth.none mix Go.Proofs.Tryd.func37 (ann72 w h c) (fun hw => by rw [← vc72 w h c]; exact pure72 w h c)
  · cases h)

theorem snd69 : Sound Go.Proofs.Tryd.prog G69 := snd72.add ⟨_, Go.Proofs.Tryd.func34, by kernel_rfl, by kernel_rfl⟩ (by
  intro args ins out h hp
  unfold sp69 at h
  split at h
  · rename_i w n l
    cases h
    exact vcFun_ok (C := C69) good snd72 Meth.none mix Go.Proofs.Tryd.func34 (ann69 w n l) (fun hw => by rw [← vc69 w n l]; exact pure69 w n l hp (hw69 hw))
  · cases h)

theorem snd70 : Sound Go.Proofs.Tryd.prog G70 := snd69.add ⟨_, Go.Proofs.Tryd.func35, by kernel_rfl, by kernel_rfl⟩ (by
  intro args ins out h hp
  unfold sp70 at h
  split at h
  · rename_i n l
    cases h
    exact vcFun_ok (C := C70) good snd69 Meth.none mix Go.Proofs.Tryd.func35 (ann70 n l) (fun hw => by rw [← vc70 n l]; exact pure70 n l hp (hw70 hw))
  · cases h)

end Go.SL.A
