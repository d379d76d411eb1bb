/- Part 4 of what the statements of this seat need: a logic of states for the code of the model, the functions that they reach, and what these are held to do: no condition. -/
import Derived.Test.YteahjgigkbkcdaaDoorS03
import Derived.Test.YteahjgigkbkcdaaDoorS02

/- Functions and what they are held to do: bound to their code. -/
namespace Go.SL.A
open Go Go.SL Go.SL.S
set_option maxRecDepth 100000
noncomputable def C49 : Ctx := ⟨Go.Proofs.Tryd.prog, D, G42, (fun _ _ => none), fun _ => []⟩
def ann49 (n k : Int) : Nat → St → Option Ann := fun id S => match id with | 0 => some ⟨Nat, [0, 1], [], fun i => [(6, .v (.int .i64) (i : Int)), (5, .v (.ref .slice) (.slice 1 (.int .i64) [] 0 (k.toNat + 1)))], fun i => [(1, some ⟨false, false, .int .i64, mapR (k.toNat + 1) (cnt i)⟩)], fun i => i ≤ n.toNat, fun i => n.toNat - i⟩ | 2 => some ⟨Nat, [0, 1, 5, 6, 7], [1], fun a => [(8, .v (.int .i64) (a : Int))], fun a => [(2, some ⟨false, false, .int .i64, mapR (k.toNat + 1) (g1 (S.i 6).toNat a)⟩)], fun a => a ≤ k.toNat + 1, fun a => k.toNat + 1 - a⟩ | _ => some ⟨Nat, [0, 1, 5, 6, 7, 8], [1], fun x => [(9, .v (.int .i64) (x : Int))], fun x => [(2, some ⟨false, false, .int .i64, mapR (k.toNat + 1) (g2 (S.i 6).toNat (S.i 8).toNat x)⟩)], fun x => x ≤ (S.i 8).toNat + 1, fun x => (S.i 8).toNat + 1 - x⟩
def out49 (n k : Int) : COut := ⟨[0 ≤ n ∧ n ≤ 8 ∧ 0 ≤ k ∧ k ≤ 12], .v (.int .i64) (cnt n.toNat k.toNat), [], []⟩
def sp49 : Spec := fun args ins => match args, ins with
  | [⟨.int .i64, n⟩, ⟨.int .i64, k⟩], [] => some (out49 n k)
  | _, _ => none
def G49 := addG G42 123 sp49
def P49 (n k : Int) : Prop :=
 (0≤IntKind.wrap .i64 (k+1)∧IntKind.wrap .i64 (k+1)=IntKind.wrap .i64 (k+1)∧IntKind.wrap .i64 (k+1) * (↑ (8:Nat):Int)≤(↑ (70368744177664:Nat):Int)∧IntKind.wrap .i64 (k+1)≤(↑ (70368744177664:Nat):Int))∧(((0:Int)≤0∧0<(↑ (IntKind.wrap .i64
 (k+1)).toNat:Int))∧0<List.length (List.replicate (IntKind.wrap .i64 (k+1)).toNat (0:Int)))∧∃ (x:Nat),((n=n∧k=k∧0=0∧(IntKind.wrap .i64 (k+1)).toNat=k.toNat+1∧0=(x:Int)∧List.set (List.replicate (IntKind.wrap .i64 (k+1)).toNat (0:Int))
 (0:Nat) (1:Int)=mapR (k.toNat+1) (cnt x)∧false=false)∧x≤n.toNat)∧∀ (x:Nat),x≤n.toNat→(IntKind.min .i64≤(x:Int)∧(x:Int)≤IntKind.max .i64∧∀ (y:Int),List.Mem y (mapR (k.toNat+1) (cnt x))→IntKind.min .i64≤y∧y≤IntKind.max .i64)→bif decide
 ((x:Int)<n) then (0≤IntKind.wrap .i64 (k+1)∧IntKind.wrap .i64 (k+1)=IntKind.wrap .i64 (k+1)∧IntKind.wrap .i64 (k+1) * (↑ (8:Nat):Int)≤(↑ (70368744177664:Nat):Int)∧IntKind.wrap .i64 (k+1)≤(↑ (70368744177664:Nat):Int))∧∃ (x_1:Nat),((n=n∧k=k∧0=0∧k.toNat+1=k.toNat+1∧(x:Int)=(x:Int)∧0=0∧(IntKind.wrap
 .i64 (k+1)).toNat=(IntKind.wrap .i64 (k+1)).toNat∧0=(x_1:Int)∧mapR (k.toNat+1) (cnt x)=mapR (k.toNat+1) (cnt x)∧false=false∧List.replicate (IntKind.wrap .i64 (k+1)).toNat (0:Int)=mapR (k.toNat+1) (g1 (x:Int).toNat x_1)∧false=false)∧x_1≤k.toNat+1)∧∀
 (x_2:Nat),x_2≤k.toNat+1→(IntKind.min .i64≤(x_2:Int)∧(x_2:Int)≤IntKind.max .i64∧∀ (y:Int),List.Mem y (mapR (k.toNat+1) (g1 (x:Int).toNat x_2))→IntKind.min .i64≤y∧y≤IntKind.max .i64)→bif decide ((x_2:Int)≤k) then ∃ (x_3:Nat),((n=n∧k=k∧0=0∧k.toNat+1=k.toNat+1∧(x:Int)=(x:Int)∧0=0∧(IntKind.wrap
 .i64 (k+1)).toNat=(IntKind.wrap .i64 (k+1)).toNat∧(x_2:Int)=(x_2:Int)∧0=(x_3:Int)∧mapR (k.toNat+1) (cnt x)=mapR (k.toNat+1) (cnt x)∧false=false∧mapR (k.toNat+1) (g1 (x:Int).toNat x_2)=mapR (k.toNat+1) (g2 (x:Int).toNat (x_2:Int).toNat
 x_3)∧false=false)∧x_3≤(x_2:Int).toNat+1)∧∀ (x_4:Nat),x_4≤(x_2:Int).toNat+1→(IntKind.min .i64≤(x_4:Int)∧(x_4:Int)≤IntKind.max .i64∧∀ (y:Int),List.Mem y (mapR (k.toNat+1) (g2 (x:Int).toNat (x_2:Int).toNat x_4))→IntKind.min .i64≤y∧y≤IntKind.max
 .i64)→bif decide ((x_4:Int)≤(x_2:Int)) then ((0≤(x_2:Int)∧(x_2:Int)<(↑ (IntKind.wrap .i64 (k+1)).toNat:Int))∧0+(x_2:Int).toNat<List.length (mapR (k.toNat+1) (g2 (x:Int).toNat (x_2:Int).toNat x_4))∧(0≤IntKind.wrap .i64 ((x_2:Int) - (x_4:Int))∧IntKind.wrap
 .i64 ((x_2:Int) - (x_4:Int))<(↑ (k.toNat+1):Int))∧0+(IntKind.wrap .i64 ((x_2:Int) - (x_4:Int))).toNat<List.length (mapR (k.toNat+1) (cnt x))∧(0≤(x_2:Int)∧(x_2:Int)<(↑ (IntKind.wrap .i64 (k+1)).toNat:Int))∧0+(x_2:Int).toNat<List.length
 (mapR (k.toNat+1) (g2 (x:Int).toNat (x_2:Int).toNat x_4)))∧bif decide (0<(x_4:Int)) then ((0≤(x_2:Int)∧(x_2:Int)<(↑ (IntKind.wrap .i64 (k+1)).toNat:Int))∧0+(x_2:Int).toNat<List.length (List.set (mapR (k.toNat+1) (g2 (x:Int).toNat (x_2:Int).toNat
 x_4)) (0+(x_2:Int).toNat) (IntKind.wrap .i64 (List.getD (mapR (k.toNat+1) (g2 (x:Int).toNat (x_2:Int).toNat x_4)) (0+(x_2:Int).toNat) (0:Int)+List.getD (mapR (k.toNat+1) (cnt x)) (0+(IntKind.wrap .i64 ((x_2:Int) - (x_4:Int))).toNat)
 (0:Int))))∧(0≤IntKind.wrap .i64 ((x_2:Int) - (x_4:Int))∧IntKind.wrap .i64 ((x_2:Int) - (x_4:Int))<(↑ (k.toNat+1):Int))∧0+(IntKind.wrap .i64 ((x_2:Int) - (x_4:Int))).toNat<List.length (mapR (k.toNat+1) (cnt x))∧(0≤(x_2:Int)∧(x_2:Int)<(↑
 (IntKind.wrap .i64 (k+1)).toNat:Int))∧0+(x_2:Int).toNat<List.length (List.set (mapR (k.toNat+1) (g2 (x:Int).toNat (x_2:Int).toNat x_4)) (0+(x_2:Int).toNat) (IntKind.wrap .i64 (List.getD (mapR (k.toNat+1) (g2 (x:Int).toNat (x_2:Int).toNat
 x_4)) (0+(x_2:Int).toNat) (0:Int)+List.getD (mapR (k.toNat+1) (cnt x)) (0+(IntKind.wrap .i64 ((x_2:Int) - (x_4:Int))).toNat) (0:Int)))))∧∃ (y:Nat),(n=n∧k=k∧0=0∧k.toNat+1=k.toNat+1∧(x:Int)=(x:Int)∧0=0∧(IntKind.wrap .i64 (k+1)).toNat=(IntKind.wrap
 .i64 (k+1)).toNat∧(x_2:Int)=(x_2:Int)∧IntKind.wrap .i64 ((x_4:Int)+1)=(y:Int)∧mapR (k.toNat+1) (cnt x)=mapR (k.toNat+1) (cnt x)∧false=false∧List.set (List.set (mapR (k.toNat+1) (g2 (x:Int).toNat (x_2:Int).toNat x_4)) (0+(x_2:Int).toNat)
 (IntKind.wrap .i64 (List.getD (mapR (k.toNat+1) (g2 (x:Int).toNat (x_2:Int).toNat x_4)) (0+(x_2:Int).toNat) (0:Int)+List.getD (mapR (k.toNat+1) (cnt x)) (0+(IntKind.wrap .i64 ((x_2:Int) - (x_4:Int))).toNat) (0:Int)))) (0+(x_2:Int).toNat)
 (IntKind.wrap .i64 (List.getD (List.set (mapR (k.toNat+1) (g2 (x:Int).toNat (x_2:Int).toNat x_4)) (0+(x_2:Int).toNat) (IntKind.wrap .i64 (List.getD (mapR (k.toNat+1) (g2 (x:Int).toNat (x_2:Int).toNat x_4)) (0+(x_2:Int).toNat) (0:Int)+List.getD
 (mapR (k.toNat+1) (cnt x)) (0+(IntKind.wrap .i64 ((x_2:Int) - (x_4:Int))).toNat) (0:Int)))) (0+(x_2:Int).toNat) (0:Int)+List.getD (mapR (k.toNat+1) (cnt x)) (0+(IntKind.wrap .i64 ((x_2:Int) - (x_4:Int))).toNat) (0:Int)))=mapR (k.toNat+1)
 (g2 (x:Int).toNat (x_2:Int).toNat y)∧false=false)∧y≤(x_2:Int).toNat+1∧(x_2:Int).toNat+1 - y<(x_2:Int).toNat+1 - x_4 else ∃ (y:Nat),(n=n∧k=k∧0=0∧k.toNat+1=k.toNat+1∧(x:Int)=(x:Int)∧0=0∧(IntKind.wrap .i64 (k+1)).toNat=(IntKind.wrap .i64
 (k+1)).toNat∧(x_2:Int)=(x_2:Int)∧IntKind.wrap .i64 ((x_4:Int)+1)=(y:Int)∧mapR (k.toNat+1) (cnt x)=mapR (k.toNat+1) (cnt x)∧false=false∧List.set (mapR (k.toNat+1) (g2 (x:Int).toNat (x_2:Int).toNat x_4)) (0+(x_2:Int).toNat) (IntKind.wrap
 .i64 (List.getD (mapR (k.toNat+1) (g2 (x:Int).toNat (x_2:Int).toNat x_4)) (0+(x_2:Int).toNat) (0:Int)+List.getD (mapR (k.toNat+1) (cnt x)) (0+(IntKind.wrap .i64 ((x_2:Int) - (x_4:Int))).toNat) (0:Int)))=mapR (k.toNat+1) (g2 (x:Int).toNat
 (x_2:Int).toNat y)∧false=false)∧y≤(x_2:Int).toNat+1∧(x_2:Int).toNat+1 - y<(x_2:Int).toNat+1 - x_4 else ∃ (y:Nat),(n=n∧k=k∧0=0∧k.toNat+1=k.toNat+1∧(x:Int)=(x:Int)∧0=0∧(IntKind.wrap .i64 (k+1)).toNat=(IntKind.wrap .i64 (k+1)).toNat∧IntKind.wrap
 .i64 ((x_2:Int)+1)=(y:Int)∧mapR (k.toNat+1) (cnt x)=mapR (k.toNat+1) (cnt x)∧false=false∧mapR (k.toNat+1) (g2 (x:Int).toNat (x_2:Int).toNat x_4)=mapR (k.toNat+1) (g1 (x:Int).toNat y)∧false=false)∧y≤k.toNat+1∧k.toNat+1 - y<k.toNat+1
 - x_2 else ∃ (y:Nat),(n=n∧k=k∧0=0∧(IntKind.wrap .i64 (k+1)).toNat=k.toNat+1∧IntKind.wrap .i64 ((x:Int)+1)=(y:Int)∧mapR (k.toNat+1) (g1 (x:Int).toNat x_2)=mapR (k.toNat+1) (cnt y)∧false=false)∧y≤n.toNat∧n.toNat - y<n.toNat - x else ((0≤k∧k<(↑
 (k.toNat+1):Int))∧0+k.toNat<List.length (mapR (k.toNat+1) (cnt x)))∧List.getD (mapR (k.toNat+1) (cnt x)) (0+k.toNat) (0:Int)=cnt n.toNat k.toNat
theorem vc49 (n k : Int) : P49 n k = vcFun C49 (ann49 n k) Go.Proofs.Tryd.f123 [⟨.int .i64, n⟩, ⟨.int .i64, k⟩] [] (out49 n k) := by kernel_rfl

end Go.SL.A

/- How the document counts vectors: proofs. -/
namespace Go.SL.A
open Go Go.SL Go.SL.S

theorem mapR_len (n : Nat) (f : Nat → Int) : (mapR n f).length = n := by simp [mapR]
theorem mapR_get {n j : Nat} {f : Nat → Int} (h : j < n) : (mapR n f).getD j 0 = f j := by simp [mapR, h]
theorem mapR_congr {n : Nat} {f g : Nat → Int} (h : ∀ j, j < n → f j = g j) : mapR n f = mapR n g := List.map_congr_left fun j hj => h j (List.mem_range.1 hj)
theorem mapR_set {n j : Nat} {f g : Nat → Int} {v : Int} (h : ∀ i, i < n → g i = if i = j then v else f i) : (mapR n f).set j v = mapR n g := by
  unfold mapR; rw [set_map_range]; exact List.map_congr_left fun i hi => (h i (List.mem_range.1 hi)).symm
theorem mapR_rep (n : Nat) : List.replicate n (0 : Int) = mapR n fun _ => 0 := by
  unfold mapR; rw [List.map_const']; simp

theorem revTo_mono {f : Nat → Int} (h : ∀ i, 0 ≤ f i) (K : Nat) : ∀ J d, revTo f K J ≤ revTo f K (J + d)
  | J, 0 => Int.le_refl _
  | J, d + 1 => by have := revTo_mono h K J d; have := h (K - (J + d + 1)); rw [← Nat.add_assoc, revTo]; omega

theorem ptF_le (i a x : Nat) (h : x ≤ a + 1) : 0 ≤ ptF i a x ∧ ptF i a x ≤ cnt (i + 1) a := by
  have hn := cnt_sum i a
  have h1 := (cnt_le i a).1
  have h0 := (cnt_le (i + 1) a).1
  have h2 := revTo_sum (cnt i) a a (Nat.le_refl _)
  rw [Nat.sub_self, show sumTo (cnt i) 0 = 0 from rfl] at h2
  unfold ptF
  split
  · omega
  · have h3 := revTo_mono (f := cnt i) (fun j => (cnt_le i j).1) a (x - 1) (a - (x - 1))
    have h4 := revTo_mono (f := cnt i) (fun j => (cnt_le i j).1) a 0 (x - 1)
    rw [show x - 1 + (a - (x - 1)) = a by omega] at h3
    rw [Nat.zero_add, show revTo (cnt i) a 0 = 0 from rfl] at h4
    omega

theorem ptF_all (i a : Nat) : ptF i a (a + 1) = cnt (i + 1) a := by
  have hn := cnt_sum i a
  have h2 := revTo_sum (cnt i) a a (Nat.le_refl _)
  rw [Nat.sub_self, show sumTo (cnt i) 0 = 0 from rfl] at h2
  unfold ptF
  rw [if_neg (by omega), Nat.add_sub_cancel]; omega

theorem pure49 (n k : Int) (h : 0 ≤ n ∧ n ≤ 8 ∧ 0 ≤ k ∧ k ≤ 12) : P49 n k := by
  obtain ⟨N, rfl⟩ : ∃ N : Nat, n = N := ⟨n.toNat, by omega⟩
  obtain ⟨K, rfl⟩ : ∃ K : Nat, k = K := ⟨k.toNat, by omega⟩
  have hN : N ≤ 8 := by omega
  have hK : K ≤ 12 := by omega
  have wk : IntKind.i64.wrap ((K : Int) + 1) = ((K + 1 : Nat) : Int) := by rw [w64 (by omega) (by omega)]; simp
  unfold P49
  simp only [Int.toNat_natCast, Nat.zero_add, eq_self, true_and, and_true, wk, mapR_len, List.length_replicate]
  refine ⟨⟨by omega, by omega, by omega⟩, ⟨by omega, by omega⟩, 0, ⟨⟨rfl, ?_⟩, by omega⟩, fun i hi _ => ?_⟩
  · rw [mapR_rep]
    refine mapR_set fun j hj => ?_
    cases j <;> simp [cnt, cnt0]
  by_cases hin : (i : Int) < (N : Int)
  · have wi : IntKind.i64.wrap ((i : Int) + 1) = ((i + 1 : Nat) : Int) := by rw [w64 (by omega) (by omega)]; simp
    simp only [hin, decide_true, cond_true, wi]
    refine ⟨⟨by omega, by omega, by omega⟩, 0, ⟨⟨rfl, ?_⟩, by omega⟩, fun a ha _ => ?_⟩
    · rw [mapR_rep]; exact mapR_congr fun j _ => by simp [g1]
    by_cases hak : (a : Int) ≤ (K : Int)
    · have wa : IntKind.i64.wrap ((a : Int) + 1) = ((a + 1 : Nat) : Int) := by rw [w64 (by omega) (by omega)]; simp
      simp only [hak, decide_true, cond_true, wa]
      refine ⟨0, ⟨⟨rfl, ?_⟩, by omega⟩, fun x hx _ => ?_⟩
      · exact mapR_congr fun j _ => by unfold g1 g2 ptF; simp
      by_cases hxa : (x : Int) ≤ (a : Int)
      · have wx : IntKind.i64.wrap ((x : Int) + 1) = ((x + 1 : Nat) : Int) := by rw [w64 (by omega) (by omega)]; simp
        have ws : IntKind.i64.wrap ((a : Int) - (x : Int)) = ((a - x : Nat) : Int) := by rw [w64 (by omega) (by omega)]; omega
        have e1 := mapR_get (n := K + 1) (j := a - x) (f := cnt i) (by omega)
        have e2 := mapR_get (n := K + 1) (j := a) (f := g2 i a x) (by omega)
        have e3 : g2 i a x a = ptF i a x := by simp [g2]
        have p1 := ptF_le i a x (by omega)
        have p2 := ptF_le i a (x + 1) (by omega)
        have c1 := cnt_fits (n := i + 1) (k := a) (by omega) (by omega)
        have c2 := cnt_fits (n := i) (k := a - x) (by omega) (by omega)
        have w1 : IntKind.i64.wrap (ptF i a x + cnt i (a - x)) = ptF i a x + cnt i (a - x) := w64 (by omega) (by omega)
        simp only [hxa, decide_true, cond_true, wx, ws, Int.toNat_natCast, e1, e2, e3, w1]
        by_cases hx0 : (0 : Int) < (x : Int)
        · have ep : ptF i a (x + 1) = ptF i a x + cnt i (a - x) + cnt i (a - x) := by
            unfold ptF
            rw [if_neg (by omega), if_neg (by omega), show x + 1 - 1 = x - 1 + 1 by omega, revTo, show x - 1 + 1 = x by omega]; omega
          have w2 : IntKind.i64.wrap (ptF i a x + cnt i (a - x) + cnt i (a - x)) = ptF i a x + cnt i (a - x) + cnt i (a - x) := w64 (by omega) (by omega)
          have e4 : ((mapR (K + 1) (g2 i a x)).set a (ptF i a x + cnt i (a - x))).getD a 0 = ptF i a x + cnt i (a - x) := by
            rw [List.getD_eq_getElem?_getD, List.getElem?_set_self (by rw [mapR_len]; omega)]; rfl
          simp only [hx0, decide_true, cond_true, e4, w2, List.length_set, mapR_len, List.set_set]
          refine ⟨by omega, by omega, x + 1, ⟨rfl, ?_⟩, by omega, by omega⟩
          refine mapR_set fun j _ => ?_
          unfold g2
          by_cases ej : j = a
          · subst ej; simp [ep]
          · simp [ej]
        · have hx00 : x = 0 := by omega
          subst hx00
          have ep : ptF i a (0 + 1) = ptF i a 0 + cnt i (a - 0) := by simp [ptF, revTo]
          simp only [hx0, decide_false, cond_false]
          refine ⟨by omega, 0 + 1, ⟨rfl, ?_⟩, by omega, by omega⟩
          refine mapR_set fun j _ => ?_
          unfold g2
          by_cases ej : j = a
          · subst ej; simp [ep]
          · simp [ej]
      · have : x = a + 1 := by omega
        subst this
        simp only [hxa, decide_false, cond_false]
        refine ⟨a + 1, ⟨rfl, mapR_congr fun j _ => ?_⟩, by omega, by omega⟩
        unfold g1 g2
        by_cases e1 : j < a
        · rw [if_pos e1, if_pos (by omega)]
        · by_cases e2 : j = a
          · subst e2; rw [if_neg e1, if_pos rfl, if_pos (by omega), ptF_all]
          · rw [if_neg e1, if_neg e2, if_neg (by omega)]
    · have : a = K + 1 := by omega
      subst this
      simp only [hak, decide_false, cond_false]
      refine ⟨i + 1, ⟨rfl, mapR_congr fun j hj => ?_⟩, by omega, by omega⟩
      unfold g1; rw [if_pos hj]
  · have : i = N := by omega
    subst this
    simp only [hin, decide_false, cond_false]
    exact ⟨⟨⟨by omega, by omega⟩, by omega⟩, mapR_get (by omega)⟩

end Go.SL.A

/- Functions do what they are held to do. -/
namespace Go.SL.A
open Go Go.SL Go.SL.S
theorem snd49 : Sound Go.Proofs.Tryd.prog G49 := snd42.add ⟨_, Go.Proofs.Tryd.func123, by kernel_rfl, by kernel_rfl⟩ (by
  intro args ins out h hp
  unfold sp49 at h
  split at h
  · rename_i n k
    cases h
    exact vcFun_ok (C := C49) good snd42 Meth.none mix Go.Proofs.Tryd.func123 (ann49 n k) (fun hw => by rw [← vc49 n k]; exact pure49 n k hp)
  · cases h)

end Go.SL.A

/- The document's vectors of four, in order: plain functions. -/
namespace Go.SL.S
open Go
end Go.SL.S
namespace Go.SL.A
open Go Go.SL
def G49v := viewG G49
theorem snd49v : Sound Go.Proofs.Tryd.prog G49v := snd49.view
end Go.SL.A

/- Functions and what they are held to do: bound to their code. -/
namespace Go.SL.A
open Go Go.SL Go.SL.S
set_option maxRecDepth 100000
end Go.SL.A

/- The document's vectors of four: the code. -/
namespace Go.SL.A
open Go Go.SL Go.SL.S

theorem szR_nums {K : Nat} (hK : K ≤ 12) {z : Int} (h : z ∈ numsF K) : 0 ≤ szR z ∧ szR z ≤ K ∧ (szR z = z ∨ szR z = -z) := by
  have := mem_numsF.1 h
  unfold szR
  split
  · rw [w64 (by omega) (by omega)]; omega
  · omega

end Go.SL.A

/- Functions do what they are held to do. -/
namespace Go.SL.A
open Go Go.SL Go.SL.S
end Go.SL.A

/- Methods of types that lie in interfaces: none of pulse's here. -/
namespace Go.SL.A
open Go Go.SL
def meth14 : MethT := fun _ _ => none
theorem methOk : Meth Go.Proofs.Tryd.prog meth14 := Meth.none
end Go.SL.A

/- Plain functions of pulse. -/
namespace Go.SL.S
open Go Go.SL
def gainF (s : Int) : Int := if s < 0 ∨ 15 < s then 0 else 2 ^ s.toNat
def absF (x : Int) : Int := max x (-x)
def heldF (c : List Int) : Bool := c.all fun x => decide (-1048576 ≤ x ∧ x ≤ 1048576)
def fallF (s n g : Int) : Int := absF (s - n * g) - absF (s - (n + 1) * g)
end Go.SL.S

/- Functions and what they are held to do: bound to their code. -/
namespace Go.SL.A
open Go Go.SL Go.SL.S
set_option maxRecDepth 100000
noncomputable def C92 : Ctx := ⟨Go.Proofs.Tryd.prog, D, G49v, meth14, fun _ => []⟩
def ann92 (_s : Int) : Nat → St → Option Ann := fun _ _ => none
def out92 (s : Int) : COut := ⟨[], .v (.int .i64) (gainF s), [], []⟩
def sp92 : Spec := fun args ins => match args, ins with
  | [⟨.int .i64, s⟩], [] => some (out92 s)
  | _, _ => none
def G92 := addG G49v 101 sp92
def P92 (s : Int) : Prop :=
 ∀ (b:Bool),decide (s<0)=b→(((!b)=true→(!b)=true)∧(b=false→(!b)=true))∧bif bif b then true else decide (15<s) then 0=gainF s else 0≤s∧ishl .i64 (1:Int) s=gainF s
theorem vc92 (s : Int) : P92 s = vcFun C92 (ann92 s) Go.Proofs.Tryd.f101 [⟨.int .i64, s⟩] [] (out92 s) := by kernel_rfl

end Go.SL.A

/- Pulse: small functions. -/
namespace Go.SL.A
open Go Go.SL Go.SL.S

theorem absF_le (x : Int) : 0 ≤ absF x ∧ (absF x = x ∨ absF x = -x) := by unfold absF; omega

theorem gain_cases {s : Int} (h : 0 ≤ s ∧ s ≤ 15) : s = 0 ∨ s = 1 ∨ s = 2 ∨ s = 3 ∨ s = 4 ∨ s = 5 ∨ s = 6 ∨ s = 7 ∨ s = 8 ∨ s = 9 ∨ s = 10 ∨ s = 11 ∨ s = 12 ∨ s = 13 ∨ s = 14 ∨ s = 15 := by omega

theorem pure92 (s : Int) : P92 s := by
  unfold P92 gainF
  rintro _ rfl
  refine ⟨by simp, ?_⟩
  by_cases h1 : s < 0
  · simp [h1]
  · by_cases h2 : 15 < s
    · simp [h1, h2]
    · have h3 : ¬ (s < 0 ∨ 15 < s) := by omega
      rw [if_neg h3]
      simp only [h1, h2, decide_false, cond_false]
      refine ⟨by omega, ?_⟩
      rcases gain_cases (s := s) (by omega) with rfl | rfl | rfl | rfl | rfl | rfl | rfl | rfl | rfl | rfl | rfl | rfl | rfl | rfl | rfl | rfl <;> decide
end Go.SL.A

/- Functions do what they are held to do. -/
namespace Go.SL.A
open Go Go.SL Go.SL.S
theorem snd92 : Sound Go.Proofs.Tryd.prog G92 := snd49v.add ⟨_, Go.Proofs.Tryd.func101, by kernel_rfl, by kernel_rfl⟩ (by
  intro args ins out h hp
  unfold sp92 at h
  split at h
  · rename_i s
    cases h
    exact vcFun_ok (C := C92) good snd49v methOk mix Go.Proofs.Tryd.func101 (ann92 s) (fun hw => by rw [← vc92 s]; exact pure92 s)
  · cases h)

end Go.SL.A

/- Heaps: plain functions. -/
namespace Go.SL.S
open Go Go.SL
abbrev W : Type := Int × Int × Int × Int
def wz : W := (0, 0, 0, 0)
def fallW (w : W) : Int := fallF w.2.1 w.2.2.1 w.2.2.2
def okW (w : W) : Prop := 0 ≤ w.2.1 ∧ w.2.1 ≤ 1048576 ∧ 0 ≤ w.2.2.1 ∧ w.2.2.1 ≤ 100 ∧ 0 ≤ w.2.2.2 ∧ w.2.2.2 ≤ 32768
def ltW (a b : W) : Bool := decide (fallW b < fallW a) || (decide (fallW a = fallW b) && decide (a.1 < b.1))
theorem ltW_ord : Ord ltW where
  asym := fun a b h => by
    simp only [ltW, Bool.or_eq_true, Bool.and_eq_true, decide_eq_true_eq, Bool.or_eq_false_iff, Bool.and_eq_false_iff, decide_eq_false_iff_not] at h ⊢
    omega
  tr := fun a b c h1 h2 => by
    simp only [ltW, Bool.or_eq_false_iff, Bool.and_eq_false_iff, decide_eq_false_iff_not] at h1 h2 ⊢
    omega
theorem ltW_fall {a b : W} (h : ltW a b = false) : fallW a ≤ fallW b := by
  simp only [ltW, Bool.or_eq_false_iff, decide_eq_false_iff_not] at h
  omega
end Go.SL.S

/- Functions and what they are held to do: bound to their code. -/
namespace Go.SL.A
open Go Go.SL Go.SL.S
set_option maxRecDepth 100000
end Go.SL.A

/- Heaps of wants: their methods. -/
namespace Go.SL.A
open Go Go.SL Go.SL.S

end Go.SL.A

/- Functions do what they are held to do. -/
namespace Go.SL.A
open Go Go.SL Go.SL.S
end Go.SL.A

/- Heaps: how far up and down takes. -/
namespace Go.SL.S
open Go Go.SL
theorem upL_fuel {α : Type} (lt : α → α → Bool) (d : α) : ∀ (f : Nat) (l : List α) (j : Nat), j < f → upL lt d f l j = upL lt d (j + 1) l j := by
  intro f
  induction f using Nat.strongRecOn with
  | ind f ih =>
    intro l j h
    obtain ⟨f, rfl⟩ : ∃ g, f = g + 1 := ⟨f - 1, by omega⟩
    rw [upL, upL]
    cases h1 : decide ((j - 1) / 2 = j) with
    | true => rfl
    | false =>
      cases h2 : lt (l.getD j d) (l.getD ((j - 1) / 2) d) with
      | false => rfl
      | true =>
        have h1 := of_decide_eq_false h1
        by_cases hj : j < f
        · simp only
          rw [ih f (by omega) _ ((j - 1) / 2) (by omega), ih j (by omega) _ ((j - 1) / 2) (by omega)]
        · have : f = j := by omega
          rw [this]

theorem downL_fuel {α : Type} (lt : α → α → Bool) (d : α) (n : Nat) : ∀ (f : Nat) (l : List α) (i : Nat), n - i ≤ f → downL lt d n f l i = downL lt d n (n - i) l i := by
  intro f
  induction f using Nat.strongRecOn with
  | ind f ih =>
    intro l i h
    by_cases hin : 2 * i + 1 < n
    · obtain ⟨f, rfl⟩ : ∃ g, f = g + 1 := ⟨f - 1, by omega⟩
      obtain ⟨e, he⟩ : ∃ e, n - i = e + 1 := ⟨n - i - 1, by omega⟩
      rw [he, downL, downL]
      have hc := childL_cases lt d l i n
      generalize childL lt d l i n = c at *
      cases decide (2 * i + 1 < n) with
      | false => rfl
      | true =>
        cases lt (l.getD c d) (l.getD i d) with
        | false => rfl
        | true =>
          simp only
          rw [ih f (by omega) _ c (by omega)]
          by_cases hef : e = f
          · rw [hef, ih f (by omega) _ c (by omega)]
          · rw [ih e (by omega) _ c (by omega)]
    · have stop : ∀ f, downL lt d n f l i = (l, i) := by
        intro f
        cases f with
        | zero => rfl
        | succ f => rw [downL, decide_eq_false hin]
      rw [stop, stop]
end Go.SL.S

/- Functions and what they are held to do: bound to their code. -/
namespace Go.SL.A
open Go Go.SL Go.SL.S
set_option maxRecDepth 100000
end Go.SL.A

/- Heaps of wants: up, down, push, fix. -/
namespace Go.SL.A
open Go Go.SL Go.SL.S

theorem half_up {k : Nat} (h : k ≤ 1000000) : IntKind.i64.wrap (Int.tdiv (IntKind.i64.wrap ((k : Int) - 1)) 2) = (((k - 1) / 2 : Nat) : Int) := by
  rw [w64 (n := (k : Int) - 1) (by omega) (by omega)]
  have d := tdm ((k : Int) - 1) (k := 2) (by decide)
  generalize Int.tdiv ((k : Int) - 1) 2 = q at *
  generalize Int.tmod ((k : Int) - 1) 2 = r at *
  rw [w64 (by omega) (by omega)]
  omega

theorem downL_stop {α : Type} (lt : α → α → Bool) (d : α) {n i : Nat} (l : List α) (h : ¬ 2 * i + 1 < n) (f : Nat) : downL lt d n f l i = (l, i) := by
  cases f with
  | zero => rfl
  | succ f => rw [downL, decide_eq_false h]

theorem downL_step {α : Type} (lt : α → α → Bool) (d : α) {n i : Nat} (l : List α) (h : 2 * i + 1 < n) : downL lt d n (n - i) l i =
    bif lt (l.getD (childL lt d l i n) d) (l.getD i d) then downL lt d n (n - childL lt d l i n) (swapL d l i (childL lt d l i n)) (childL lt d l i n) else (l, i) := by
  obtain ⟨f, hf⟩ : ∃ f, n - i = f + 1 := ⟨n - i - 1, by omega⟩
  have hc := childL_cases lt d l i n
  rw [hf, downL, decide_eq_true h]
  generalize childL lt d l i n = c at *
  cases lt (l.getD c d) (l.getD i d) with
  | false => rfl
  | true =>
    simp only [cond_true]
    rw [downL_fuel lt d n f _ c (by omega)]

end Go.SL.A

/- Functions do what they are held to do. -/
namespace Go.SL.A
open Go Go.SL Go.SL.S
end Go.SL.A

/- Pulses, found one by one: plain laws. -/
namespace Go.SL.S
open Go Go.SL

def bump (w : W) : W := (w.1, w.2.1, w.2.2.1 + 1, w.2.2.2)

def stepY (c y : List Int) (a : Nat) : List Int := y.set a (if c.getD a 0 < 0 then y.getD a 0 - 1 else y.getD a 0 + 1)

def stepF (c : List Int) (s : List W × List Int) : List W × List Int :=
  (fixL ltW wz (s.1.set 0 (bump (s.1.getD 0 wz))), stepY c s.2 (s.1.getD 0 wz).1.toNat)

def pushTo (c : List Int) (g : Int) : Nat → List W
  | 0 => []
  | k + 1 => pushL ltW wz (pushTo c g k) ((k : Int), absF (c.getD k 0), 0, g)

/-- The wants of coefficients and pulses. -/
def wsF (c y : List Int) (g : Int) : List W := [(0, absF (c.getD 0 0), absF (y.getD 0 0), g), (1, absF (c.getD 1 0), absF (y.getD 1 0), g), (2, absF (c.getD 2 0), absF (y.getD 2 0), g), (3, absF (c.getD 3 0), absF (y.getD 3 0), g)]

/-- Pulses have their coefficients' signs. -/
def sgn (c y : Int) : Prop := if c < 0 then y ≤ 0 else 0 ≤ y

def lam (s n g q : Int) : Prop := fallF s n g ≤ q ∧ (1 ≤ n → q ≤ fallF s (n - 1) g)

structure FI (c : List Int) (g : Int) (k : Nat) (s : List W × List Int) : Prop where
  perm : s.1.Perm (wsF c s.2 g)
  hp : Hp ltW wz s.1 4
  len : s.2.length = 4
  sg : ∀ i, i < 4 → sgn (c.getD i 0) (s.2.getD i 0)
  sum : absF (s.2.getD 0 0) + absF (s.2.getD 1 0) + absF (s.2.getD 2 0) + absF (s.2.getD 3 0) = k
  lm : ∃ q, ∀ i, i < 4 → lam (absF (c.getD i 0)) (absF (s.2.getD i 0)) g q

theorem len4 {α : Type} {l : List α} (h : l.length = 4) : ∃ a b c d, l = [a, b, c, d] := by
  match l, h with
  | [a, b, c, d], _ => exact ⟨a, b, c, d, rfl⟩

theorem fall_anti (s n g : Int) (hg : 0 ≤ g) : fallF s (n + 1) g ≤ fallF s n g := by
  unfold fallF absF
  have e1 : (n + 1) * g = n * g + g := by rw [Int.add_mul, Int.one_mul]
  have e2 : (n + 1 + 1) * g = n * g + g + g := by rw [Int.add_mul, Int.add_mul, Int.one_mul]
  rw [e1, e2]
  generalize n * g = m
  omega

theorem FI.at0 {c : List Int} {g : Int} {k : Nat} {s : List W × List Int} (h : FI c g k s) : ∃ i, i < 4 ∧ s.1.getD 0 wz = (((i : Nat) : Int), absF (c.getD i 0), absF (s.2.getD i 0), g) ∧
    (s.1.set 0 (bump (s.1.getD 0 wz))).Perm ((wsF c s.2 g).set i (bump (s.1.getD 0 wz))) ∧ ∀ j, j < 4 → fallF (absF (c.getD j 0)) (absF (s.2.getD j 0)) g ≤ fallF (absF (c.getD i 0)) (absF (s.2.getD i 0)) g := by
  have hl : s.1.length = 4 := by rw [h.perm.length_eq]; rfl
  have hf := h.hp.first ltW_ord
  have hp := h.perm
  obtain ⟨w0, w1, w2, w3, e⟩ := len4 hl
  rw [e] at hp hf ⊢
  have hmem : w0 ∈ wsF c s.2 g := hp.subset (by simp)
  have e0 : [w0, w1, w2, w3].getD 0 wz = w0 := rfl
  rw [e0] at hf ⊢
  have hmin : ∀ w ∈ wsF c s.2 g, fallW w ≤ fallW w0 := by
    intro w hw
    have hw := hp.symm.subset hw
    simp only [List.mem_cons, List.not_mem_nil, or_false] at hw
    rcases hw with rfl | rfl | rfl | rfl
    · omega
    · exact ltW_fall (hf 1 (by omega))
    · exact ltW_fall (hf 2 (by omega))
    · exact ltW_fall (hf 3 (by omega))
  have hj : ∀ j, j < 4 → fallF (absF (c.getD j 0)) (absF (s.2.getD j 0)) g ≤ fallW w0 := by
    intro j hj
    have : j = 0 ∨ j = 1 ∨ j = 2 ∨ j = 3 := by omega
    rcases this with rfl | rfl | rfl | rfl
    · exact hmin (0, absF (c.getD 0 0), absF (s.2.getD 0 0), g) (by simp [wsF])
    · exact hmin (1, absF (c.getD 1 0), absF (s.2.getD 1 0), g) (by simp [wsF])
    · exact hmin (2, absF (c.getD 2 0), absF (s.2.getD 2 0), g) (by simp [wsF])
    · exact hmin (3, absF (c.getD 3 0), absF (s.2.getD 3 0), g) (by simp [wsF])
  simp only [wsF, List.mem_cons, List.not_mem_nil, or_false] at hmem
  have set0 : ∀ x : W, [w0, w1, w2, w3].set 0 x = [x, w1, w2, w3] := fun _ => rfl
  have hq : ∀ (A B : List W) (x y : W), wsF c s.2 g = A ++ [x] ++ B → w0 = x → [y, w1, w2, w3].Perm (A ++ [y] ++ B) := by
    intro A B x y he hx
    rw [he, ← hx] at hp
    have h1 : (A ++ [w0] ++ B).Perm (w0 :: (A ++ B)) := by
      rw [List.append_assoc]; exact List.perm_middle
    have h2 : (A ++ [y] ++ B).Perm (y :: (A ++ B)) := by
      rw [List.append_assoc]; exact List.perm_middle
    exact (List.Perm.cons y (List.Perm.cons_inv (hp.trans h1))).trans h2.symm
  rcases hmem with e1 | e1 | e1 | e1
  · refine ⟨0, by omega, e1, ?_, fun j h => by have := hj j h; rw [e1] at this; exact this⟩
    rw [set0]; exact hq [] _ _ _ rfl e1
  · refine ⟨1, by omega, e1, ?_, fun j h => by have := hj j h; rw [e1] at this; exact this⟩
    rw [set0]; exact hq [_] _ _ _ rfl e1
  · refine ⟨2, by omega, e1, ?_, fun j h => by have := hj j h; rw [e1] at this; exact this⟩
    rw [set0]; exact hq [_, _] _ _ _ rfl e1
  · refine ⟨3, by omega, e1, ?_, fun j h => by have := hj j h; rw [e1] at this; exact this⟩
    rw [set0]; exact hq [_, _, _] _ _ _ rfl e1

theorem FI.step {c : List Int} {g : Int} (hg : 0 ≤ g) {k : Nat} {s : List W × List Int} (h : FI c g k s) : FI c g (k + 1) (stepF c s) := by
  obtain ⟨i, hi, e, hp, hm⟩ := h.at0
  have hl : s.1.length = 4 := by rw [h.perm.length_eq]; rfl
  have hlen := h.len
  have hsg := h.sg
  have hsum := h.sum
  obtain ⟨q, hq⟩ := h.lm
  have hh := fix_hp ltW_ord wz (l := s.1) (bump (s.1.getD 0 wz)) (by rw [hl]; exact h.hp)
  rw [hl] at hh
  have hat : (s.1.getD 0 wz).1.toNat = i := by rw [e]; simp
  have hstep : absF ((stepY c s.2 i).getD i 0) = absF (s.2.getD i 0) + 1 ∧ sgn (c.getD i 0) ((stepY c s.2 i).getD i 0) := by
    have hs := hsg i hi
    have : (stepY c s.2 i).getD i 0 = if c.getD i 0 < 0 then s.2.getD i 0 - 1 else s.2.getD i 0 + 1 := by
      simp [stepY, hlen, hi]
    rw [this]
    unfold sgn at hs ⊢
    unfold absF
    split at hs
    · rename_i hc; simp only [hc, if_true]; omega
    · rename_i hc; simp only [hc, if_false]; omega
  have hoth : ∀ j, j ≠ i → (stepY c s.2 i).getD j 0 = s.2.getD j 0 := by
    intro j hj
    simp only [stepY, List.getD_eq_getElem?_getD, List.getElem?_set]
    rw [if_neg (Ne.symm hj)]
  have hws : (wsF c s.2 g).set i (bump (s.1.getD 0 wz)) = wsF c (stepY c s.2 i) g := by
    rw [e]
    have : i = 0 ∨ i = 1 ∨ i = 2 ∨ i = 3 := by omega
    rcases this with rfl | rfl | rfl | rfl
    · simp only [wsF, bump, hstep.1, hoth 1 (by omega), hoth 2 (by omega), hoth 3 (by omega)]; rfl
    · simp only [wsF, bump, hstep.1, hoth 0 (by omega), hoth 2 (by omega), hoth 3 (by omega)]; rfl
    · simp only [wsF, bump, hstep.1, hoth 0 (by omega), hoth 1 (by omega), hoth 3 (by omega)]; rfl
    · simp only [wsF, bump, hstep.1, hoth 0 (by omega), hoth 1 (by omega), hoth 2 (by omega)]; rfl
  have e2 : stepF c s = (fixL ltW wz (s.1.set 0 (bump (s.1.getD 0 wz))), stepY c s.2 i) := by unfold stepF; rw [hat]
  rw [e2]
  refine ⟨?_, hh, by simp [stepY, hlen], fun j hj => ?_, ?_, fallF (absF (c.getD i 0)) (absF (s.2.getD i 0)) g, fun j hj => ?_⟩
  · rw [← hws]
    exact (downL_perm ltW wz _ _ _ 0 (Nat.le_refl _)).trans hp
  · by_cases ej : j = i
    · subst ej; exact hstep.2
    · simp only [hoth j ej]; exact hsg j hj
  · have : i = 0 ∨ i = 1 ∨ i = 2 ∨ i = 3 := by omega
    rcases this with rfl | rfl | rfl | rfl
    · simp only [hstep.1, hoth 1 (by omega), hoth 2 (by omega), hoth 3 (by omega)]; omega
    · simp only [hstep.1, hoth 0 (by omega), hoth 2 (by omega), hoth 3 (by omega)]; omega
    · simp only [hstep.1, hoth 0 (by omega), hoth 1 (by omega), hoth 3 (by omega)]; omega
    · simp only [hstep.1, hoth 0 (by omega), hoth 1 (by omega), hoth 2 (by omega)]; omega
  · by_cases ej : j = i
    · subst ej
      simp only [hstep.1]
      refine ⟨fall_anti _ _ _ hg, fun _ => ?_⟩
      rw [Int.add_sub_cancel]; exact Int.le_refl _
    · simp only [hoth j ej]
      exact ⟨hm j hj, fun h1 => Int.le_trans (hq i hi).1 ((hq j hj).2 h1)⟩

theorem push4 (c : List Int) (g : Int) : (pushTo c g 4).Perm (wsF c [0, 0, 0, 0] g) ∧ Hp ltW wz (pushTo c g 4) 4 ∧ (pushTo c g 4).length = 4 := by
  have len : ∀ k, (pushTo c g k).length = k := by
    intro k
    induction k with
    | zero => rfl
    | succ k ih => rw [pushTo, pushL_len, ih]
  have hpp : ∀ k, Hp ltW wz (pushTo c g k) k := by
    intro k
    induction k with
    | zero => intro j _ h; omega
    | succ k ih =>
      rw [pushTo]
      have := push_hp ltW_ord wz ((k : Int), absF (c.getD k 0), 0, g) (l := pushTo c g k) (by rw [len]; exact ih)
      rw [len] at this; exact this
  refine ⟨?_, hpp 4, len 4⟩
  have p : ∀ (k : Nat) (l : List W), (pushTo c g k).Perm l → (pushTo c g (k + 1)).Perm (l ++ [((k : Int), absF (c.getD k 0), 0, g)]) := fun k l h => (pushL_perm ltW wz _ _).trans (h.append_right _)
  exact p 3 _ (p 2 _ (p 1 _ (p 0 [] (List.Perm.refl _))))

theorem FI.init (c : List Int) (g : Int) : FI c g 0 (pushTo c g 4, [0, 0, 0, 0]) := by
  obtain ⟨h1, h2, h3⟩ := push4 c g
  have h0 : ∀ i, i < 4 → ([0, 0, 0, 0] : List Int).getD i 0 = 0 := by
    intro i hi
    have : i = 0 ∨ i = 1 ∨ i = 2 ∨ i = 3 := by omega
    rcases this with rfl | rfl | rfl | rfl <;> rfl
  refine ⟨h1, h2, rfl, fun i hi => ?_, rfl, max (max (fallF (absF (c.getD 0 0)) 0 g) (fallF (absF (c.getD 1 0)) 0 g)) (max (fallF (absF (c.getD 2 0)) 0 g) (fallF (absF (c.getD 3 0)) 0 g)), fun i hi => ?_⟩
  · simp only [h0 i hi, sgn]; split <;> omega
  · simp only [h0 i hi]
    have e0 : absF 0 = 0 := by decide
    rw [e0]
    refine ⟨?_, fun h => by omega⟩
    have : i = 0 ∨ i = 1 ∨ i = 2 ∨ i = 3 := by omega
    rcases this with rfl | rfl | rfl | rfl <;> omega

/-- How far pulses are. -/
def farF (c y : List Int) (g : Int) : Int := absF (c.getD 0 0 - y.getD 0 0 * g) + absF (c.getD 1 0 - y.getD 1 0 * g) + absF (c.getD 2 0 - y.getD 2 0 * g) + absF (c.getD 3 0 - y.getD 3 0 * g)

def sumF (y : List Int) : Int := absF (y.getD 0 0) + absF (y.getD 1 0) + absF (y.getD 2 0) + absF (y.getD 3 0)

end Go.SL.S

/- Pulse: plain functions. -/
namespace Go.SL.S
open Go Go.SL
def fewF (y : List Int) : Bool := y.all fun x => decide (-12 ≤ x ∧ x ≤ 12)
def mayF14 (y : List Int) (s : Int) : Bool := fewF y && decide (0 < gainF s)
def coefF (y : List Int) (s : Int) : List Int := if mayF14 y s then y.map (· * gainF s) else [0, 0, 0, 0]
end Go.SL.S

/- Functions and what they are held to do: bound to their code. -/
namespace Go.SL.A
open Go Go.SL Go.SL.S
set_option maxRecDepth 100000
noncomputable def C98 : Ctx := ⟨Go.Proofs.Tryd.prog, D, G92, meth14, fun _ => []⟩
def ann98 (y : List Int) (_s : Int) : Nat → St → Option Ann := fun _ _ => some ⟨Nat, [1, 7], [], fun i => [(8, .v (.int .i64) (i : Int))], fun _ => [], fun i => i ≤ 4 ∧ fewF (y.take i) = true, fun i => 4 - i⟩
def out98 (y : List Int) (s : Int) : COut := ⟨[], .v .bool (mayF14 y s), [], []⟩
def sp98 : Spec := fun args ins => match args, ins with
  | [⟨.arr 4 (.int .i64), y⟩, ⟨.int .i64, s⟩], [] => some (out98 y s)
  | _, _ => none
def G98 := addG G92 100 sp98
def P98 (y : List Int) (s : Int) : Prop :=
 ∃ (x:Nat),((s=s∧y=y∧0=(x:Int))∧x≤4∧fewF (List.take x y)=true)∧∀ (x:Nat),x≤4∧fewF (List.take x y)=true→IntKind.min .i64≤(x:Int)∧(x:Int)≤IntKind.max .i64→bif decide ((x:Int)<4) then (0≤(x:Int)∧(x:Int)<(↑ (4:Nat):Int))∧∀ (b:Bool),decide
 (List.getD y (x:Int).toNat (0:Int)<(-12:Int))=b→(((!b)=true→(!b)=true)∧(b=false→(!b)=true))∧bif bif b then true else decide (12<List.getD y (x:Int).toNat (0:Int)) then false=mayF14 y s else ∃ (y_1:Nat),(s=s∧y=y∧IntKind.wrap .i64 ((x:Int)+1)=(y_1:Int))∧(y_1≤4∧fewF
 (List.take y_1 y)=true)∧4 - y_1<4 - x else decide (0<gainF s)=mayF14 y s
theorem vc98 (y : List Int) (s : Int) : P98 y s = vcFun C98 (ann98 y s) Go.Proofs.Tryd.f100 [⟨.arr 4 (.int .i64), y⟩, ⟨.int .i64, s⟩] [] (out98 y s) := by kernel_rfl

noncomputable def C63 : Ctx := ⟨Go.Proofs.Tryd.prog, D, G98, meth14, fun _ => []⟩
def ann63 (y : List Int) (s : Int) : Nat → St → Option Ann := fun _ _ => some ⟨Nat, [1, 4, 5, 13], [1], fun i => [(14, .v (.int .i64) (i : Int))], fun i => [(2, some ⟨false, true, .arr 4 (.int .i64), [(y.map (· * gainF s)).take i ++ [0, 0, 0, 0].drop i]⟩)], fun i => i ≤ 4, fun i => 4 - i⟩
def out63 (y : List Int) (s : Int) : COut := ⟨[], .v (.arr 4 (.int .i64)) (coefF y s), [], []⟩
def sp63 : Spec := fun args ins => match args, ins with
  | [⟨.arr 4 (.int .i64), y⟩, ⟨.int .i64, s⟩], [] => some (out63 y s)
  | _, _ => none
def G63 := addG G98 60 sp63
def P63 (y : List Int) (s : Int) : Prop :=
 bif !mayF14 y s then (0:Int) :: List.replicate (nat_lit 3) (0:Int)=coefF y s else ∃ (x:Nat),((s=s∧0=0∧0=0∧y=y∧0=(x:Int)∧(0:Int) :: List.replicate (nat_lit 3) (0:Int)=List.replicate 4 (0:Int)∧false=false∧(0:Int) :: List.replicate (nat_lit
 3) (0:Int)=List.take x (List.map (fun (x:Int) => x * gainF s) y) ++ List.drop x [(0:Int),(0:Int),(0:Int),(0:Int)]∧false=false)∧x≤4)∧∀ (x:Nat),x≤4→(IntKind.min .i64≤(x:Int)∧(x:Int)≤IntKind.max .i64∧∀ (y_1:List Int),List.Mem y_1 [List.take
 x (List.map (fun (x:Int) => x * gainF s) y) ++ List.drop x [(0:Int),(0:Int),(0:Int),(0:Int)]]→List.length y_1=4∧∀ (y:Int),List.Mem y y_1→IntKind.min .i64≤y∧y≤IntKind.max .i64)→bif decide ((x:Int)<4) then (0≤(x:Int)∧(x:Int)<(↑ (4:Nat):Int))∧((0≤(x:Int)∧(x:Int)<(↑
 (4:Nat):Int))∧(x:Int).toNat<4)∧∃ (y_1:Nat),(s=s∧0=0∧0=0∧y=y∧IntKind.wrap .i64 ((x:Int)+1)=(y_1:Int)∧(0:Int) :: List.replicate (nat_lit 3) (0:Int)=List.replicate 4 (0:Int)∧false=false∧List.set (List.take x (List.map (fun (x:Int) => x
 * gainF s) y) ++ List.drop x [(0:Int),(0:Int),(0:Int),(0:Int)]) (x:Int).toNat (IntKind.wrap .i64 (List.getD y (x:Int).toNat (0:Int) * gainF s))=List.take y_1 (List.map (fun (x:Int) => x * gainF s) y) ++ List.drop y_1 [(0:Int),(0:Int),(0:Int),(0:Int)]∧false=false)∧y_1≤4∧4
 - y_1<4 - x else List.append (List.take x (List.map (fun (x:Int) => x * gainF s) y)) (List.drop x [(0:Int),(0:Int),(0:Int),(0:Int)])=coefF y s
theorem vc63 (y : List Int) (s : Int) : P63 y s = vcFun C63 (ann63 y s) Go.Proofs.Tryd.f60 [⟨.arr 4 (.int .i64), y⟩, ⟨.int .i64, s⟩] [] (out63 y s) := by kernel_rfl

end Go.SL.A

/- Pulse: coefficients, distances, what is found. -/
namespace Go.SL.A
open Go Go.SL Go.SL.S

theorem hw98 {y : List Int} {s : Int} (hw : Go.SL.allP (List.flatMap (fun a : AV => a.t.wf a.x) [⟨.arr 4 (.int .i64), y⟩, ⟨.int .i64, s⟩] ++ List.flatMap Blk.wf [])) : y.length = 4 := by
  simp only [List.flatMap_cons, List.flatMap_nil, Ty.wf, List.append_nil, List.cons_append, List.nil_append, Go.SL.allP] at hw
  exact hw.1
theorem gain_fits (s : Int) : 0 ≤ gainF s ∧ gainF s ≤ 32768 := by
  unfold gainF
  split
  · omega
  · rcases gain_cases (s := s) (by omega) with rfl | rfl | rfl | rfl | rfl | rfl | rfl | rfl | rfl | rfl | rfl | rfl | rfl | rfl | rfl | rfl <;> decide

theorem fewF_step {c : List Int} {i : Nat} (hi : i < c.length) : fewF (c.take (i + 1)) = (fewF (c.take i) && decide (-12 ≤ c.getD i 0 ∧ c.getD i 0 ≤ 12)) := by
  unfold fewF; rw [take_snoc' 0 hi, List.all_append]; simp

theorem fewF_not {c : List Int} {i : Nat} (hi : i < c.length) (h : ¬ (-12 ≤ c.getD i 0 ∧ c.getD i 0 ≤ 12)) : fewF c = false := by
  unfold fewF
  rw [List.all_eq_false]
  exact ⟨c.getD i 0, getD_mem hi, by simpa using h⟩

theorem fewF_at {c : List Int} (h : fewF c = true) (i : Nat) : -12 ≤ c.getD i 0 ∧ c.getD i 0 ≤ 12 := by
  by_cases hi : i < c.length
  · unfold fewF at h
    rw [List.all_eq_true] at h
    simpa using h _ (getD_mem (d := 0) hi)
  · rw [List.getD_eq_getElem?_getD, List.getElem?_eq_none (by omega)]; simp

theorem heldF_at {c : List Int} (h : heldF c = true) (i : Nat) : -1048576 ≤ c.getD i 0 ∧ c.getD i 0 ≤ 1048576 := by
  by_cases hi : i < c.length
  · unfold heldF at h
    rw [List.all_eq_true] at h
    simpa using h _ (getD_mem (d := 0) hi)
  · rw [List.getD_eq_getElem?_getD, List.getElem?_eq_none (by omega)]; simp


theorem pure98 (y : List Int) (s : Int) (hl : y.length = 4) : P98 y s := by
  unfold P98
  simp only [eq_self, true_and, Int.toNat_natCast]
  refine ⟨0, ⟨rfl, by omega, rfl⟩, fun i ⟨hi, hh⟩ _ => ?_⟩
  by_cases h4 : (i : Int) < 4
  · have hi4 : i < y.length := by omega
    rw [step_i (by omega)]
    simp only [h4, decide_true, cond_true]
    refine ⟨by omega, ?_⟩
    rintro _ rfl
    refine ⟨by simp, ?_⟩
    by_cases b1 : y.getD i 0 < -12
    · simp only [b1, decide_true, cond_true]; unfold mayF14; rw [fewF_not hi4 (by omega)]; rfl
    · by_cases b2 : 12 < y.getD i 0
      · simp only [b1, b2, decide_true, decide_false, cond_true, cond_false]; unfold mayF14; rw [fewF_not hi4 (by omega)]; rfl
      · simp only [b1, b2, decide_false, cond_false]
        refine ⟨i + 1, rfl, ⟨by omega, ?_⟩, by omega⟩
        rw [fewF_step hi4, hh, Bool.true_and, decide_eq_true_eq]; omega
  · have : i = 4 := by omega
    subst this
    simp only [h4, decide_false, cond_false]
    rw [List.take_of_length_le (by omega)] at hh
    unfold mayF14; rw [hh, Bool.true_and]

theorem mul_fits {x g : Int} (h1 : -12 ≤ x ∧ x ≤ 12) (h2 : 0 ≤ g ∧ g ≤ 32768) : -393216 ≤ x * g ∧ x * g ≤ 393216 := by
  have a : x * g ≤ 12 * g := Int.mul_le_mul_of_nonneg_right h1.2 h2.1
  have b : -12 * g ≤ x * g := Int.mul_le_mul_of_nonneg_right h1.1 h2.1
  omega

theorem coefF_may {y : List Int} {s : Int} (h : mayF14 y s = true) : coefF y s = y.map (· * gainF s) := by unfold coefF; rw [if_pos h]

theorem getD_map0 (y : List Int) (g : Int) (i : Nat) : (y.map (· * g)).getD i 0 = y.getD i 0 * g := by
  simp only [List.getD_eq_getElem?_getD, List.getElem?_map]
  cases y[i]? with
  | none => simp
  | some x => rfl

theorem mayF14_few {y : List Int} {s : Int} (h : mayF14 y s = true) : fewF y = true := by
  unfold mayF14 at h; rw [Bool.and_eq_true] at h; exact h.1

theorem pure63 (y : List Int) (s : Int) (hl : y.length = 4) : P63 y s := by
  unfold P63
  cases hm : mayF14 y s with
  | false =>
    simp only [Bool.not_false, cond_true]
    unfold coefF; rw [if_neg (by simp [hm])]; simp [List.replicate]
  | true =>
    simp only [Bool.not_true, cond_false, eq_self, true_and, and_true, Int.toNat_natCast]
    refine ⟨0, ⟨⟨rfl, rfl, rfl⟩, by omega⟩, fun i hi _ => ?_⟩
    by_cases h4 : (i : Int) < 4
    · have hi4 : i < y.length := by omega
      simp only [h4, decide_true, cond_true]
      refine ⟨by omega, ⟨by omega, by omega⟩, i + 1, ⟨step_i (by omega), rfl, ?_⟩, by omega, by omega⟩
      have hx := mul_fits (fewF_at (mayF14_few hm) i) (gain_fits s)
      rw [w64 (by omega) (by omega)]
      refine set_step (by simpa using hi4) (by simp; omega) ?_
      rw [← getD_map0, List.getD_eq_getElem?_getD]
      simp [hi4]
    · have : i = 4 := by omega
      subst this
      simp only [h4, decide_false, cond_false]
      rw [coefF_may hm]
      show List.take 4 _ ++ List.drop 4 _ = _
      rw [List.take_of_length_le (by simp [hl])]; simp

theorem FI.ok {c : List Int} {g : Int} {k : Nat} {s : List W × List Int} (h : FI c g k s) (hc : heldF c = true) (hg : 0 ≤ g ∧ g ≤ 32768) (hk : k ≤ 99) : ∀ w ∈ s.1, okW w ∧ w.2.2.1 ≤ k := by
  intro w hw
  have hw := h.perm.subset hw
  have hs := h.sum
  have n0 := absF_le (s.2.getD 0 0)
  have n1 := absF_le (s.2.getD 1 0)
  have n2 := absF_le (s.2.getD 2 0)
  have n3 := absF_le (s.2.getD 3 0)
  have c0 := heldF_at hc 0
  have c1 := heldF_at hc 1
  have c2 := heldF_at hc 2
  have c3 := heldF_at hc 3
  have a0 := absF_le (c.getD 0 0)
  have a1 := absF_le (c.getD 1 0)
  have a2 := absF_le (c.getD 2 0)
  have a3 := absF_le (c.getD 3 0)
  simp only [wsF, List.mem_cons, List.not_mem_nil, or_false] at hw
  unfold okW
  rcases hw with rfl | rfl | rfl | rfl <;> simp only <;> omega

end Go.SL.A

/- Functions do what they are held to do. -/
namespace Go.SL.A
open Go Go.SL Go.SL.S
theorem snd98 : Sound Go.Proofs.Tryd.prog G98 := snd92.add ⟨_, Go.Proofs.Tryd.func100, by kernel_rfl, by kernel_rfl⟩ (by
  intro args ins out h hp
  unfold sp98 at h
  split at h
  · rename_i y s
    cases h
    exact vcFun_ok (C := C98) good snd92 methOk mix Go.Proofs.Tryd.func100 (ann98 y s) (fun hw => by rw [← vc98 y s]; exact pure98 y s (hw98 hw))
  · cases h)

theorem snd63 : Sound Go.Proofs.Tryd.prog G63 := snd98.add ⟨_, Go.Proofs.Tryd.func60, by kernel_rfl, by kernel_rfl⟩ (by
  intro args ins out h hp
  unfold sp63 at h
  split at h
  · rename_i y s
    cases h
    exact vcFun_ok (C := C63) good snd98 methOk mix Go.Proofs.Tryd.func60 (ann63 y s) (fun hw => by rw [← vc63 y s]; exact pure63 y s (hw98 hw))
  · cases h)

end Go.SL.A

/- Queues: plain functions. -/
namespace Go.SL.S
open Go Go.SL
def qz : Int × Int := (0, 0)
def ltQ (a b : Int × Int) : Bool := decide (b.2 < a.2) || (decide (a.2 = b.2) && decide (a.1 < b.1))
def popL {α : Type} (lt : α → α → Bool) (d : α) (l : List α) : List α := ((downL lt d (l.length - 1) (l.length - 1) (swapL d l 0 (l.length - 1)) 0).1).take (l.length - 1)
theorem ltQ_ord : Ord ltQ where
  asym := fun a b h => by
    simp only [ltQ, Bool.or_eq_true, Bool.and_eq_true, decide_eq_true_eq, Bool.or_eq_false_iff, Bool.and_eq_false_iff, decide_eq_false_iff_not] at h ⊢
    omega
  tr := fun a b c h1 h2 => by
    simp only [ltQ, Bool.or_eq_false_iff, Bool.and_eq_false_iff, decide_eq_false_iff_not] at h1 h2 ⊢
    omega
end Go.SL.S
namespace Go.SL.A
open Go Go.SL
def meth18 : MethT := fun T nm => match Nat.beq T 157 with
  | true => match decide (nm = "Len") with
    | true => some (106, none)
    | false => match decide (nm = "Less") with
      | true => some (193, none)
      | false => match decide (nm = "Swap") with
        | true => some (196, none)
        | false => match decide (nm = "Push") with
          | true => some (195, none)
          | false => match decide (nm = "Pop") with
            | true => some (194, none)
            | false => none
  | false => meth14 T nm
theorem methOk18 : Meth Go.Proofs.Tryd.prog meth18 := by
  intro T nm f o h
  unfold meth18 at h
  split at h
  · rename_i hT
    obtain rfl : T = 157 := Nat.eq_of_beq_eq_true hT
    repeat' split at h
    all_goals cases h
    all_goals (rename_i hn; simp only [decide_eq_true_eq] at hn; subst hn)
    all_goals exact meth_ptr' (U := 161) (by kernel_rfl) (by kernel_rfl)
  · exact methOk T nm f o h
end Go.SL.A

/- Functions and what they are held to do: bound to their code. -/
namespace Go.SL.A
open Go Go.SL Go.SL.S
set_option maxRecDepth 100000
noncomputable def C101 : Ctx := ⟨Go.Proofs.Tryd.prog, D, G63, meth18, fun _ => []⟩
def ann101 (_a _b _c _d : Int) : Nat → St → Option Ann := fun _ _ => none
def out101 (a b c d : Int) : COut := ⟨[], .v .bool (ltQ (a, b) (c, d)), [], []⟩
def sp101 : Spec := fun args ins => match args, ins with
  | [⟨.cons (.int .i64) (.last (.int .i64)), (a, b)⟩, ⟨.cons (.int .i64) (.last (.int .i64)), (c, d)⟩], [] => some (out101 a b c d)
  | _, _ => none
def G101 := addG G63 104 sp101
def P101 (a b c d : Int) : Prop :=
 ∀ (b_1:Bool),decide (d<b)=b_1→∀ (b_2:Bool),decide (b=d)=b_2→(((!b_1)=true→(!b_1)=true)∧((!b_1)=true→(!b_1)=true)∧((!b_1)=true→(!b_1)=true∧(!b_1)=true)∧((!b_1 && !b_1 && b_2)=true→(!b_1 && !b_1 && b_2)=true)∧((!b_1 && !b_1 && b_2)=true→(!b_1
 && !b_1 && b_2)=true)∧((!b_1 && !b_1 && b_2)=true→(!b_1 && !b_1 && b_2)=true∧(!b_1 && !b_1 && b_2)=true)∧((!b_1)=true→(!b_1 && !b_1)=true∧(b_2=true→(!b_1 && !b_1 && b_2)=true))∧(b_1=false→(!b_1)=true))∧(bif b_1 then true else bif b_2
 then decide (a<c) else false)=ltQ (a,b) (c,d)
theorem vc101 (a b c d : Int) : P101 a b c d = vcFun C101 (ann101 a b c d) Go.Proofs.Tryd.f104 [⟨.cons (.int .i64) (.last (.int .i64)), (a, b)⟩, ⟨.cons (.int .i64) (.last (.int .i64)), (c, d)⟩] [] (out101 a b c d) := by kernel_rfl

noncomputable def C102 : Ctx := ⟨Go.Proofs.Tryd.prog, D, G101, meth18, fun _ => []⟩
def ann102 (_n : Nat) (_l : List (Int × Int)) : Nat → St → Option Ann := fun _ _ => none
def out102 (n : Nat) (_l : List (Int × Int)) : COut := ⟨[], .v (.int .i64) (n : Int), [], []⟩
def sp102 : Spec := fun args ins => match args, ins with
  | [⟨.ref .ptr, .ptr 0 (.cons (.ref .slice) (.last (.ref .func))) [0]⟩], [⟨false, true, (.cons (.ref .slice) (.last (.ref .func))), [(.slice 1 (.cons (.int .i64) (.last (.int .i64))) [] 0 n, .func (.func 104) [] [])]⟩, ⟨false, false, (.cons (.int .i64) (.last (.int .i64))), l⟩] => some (out102 n l)
  | _, _ => none
def G102 := addG G101 106 sp102
def P102 (n : Nat) (l : List (Int × Int)) : Prop :=
 (n:Int)=(n:Int)∧0=0∧n=n∧false=false∧l=l∧false=false
theorem vc102 (n : Nat) (l : List (Int × Int)) : P102 n l = vcFun C102 (ann102 n l) Go.Proofs.Tryd.f106 [⟨.ref .ptr, .ptr 0 (.cons (.ref .slice) (.last (.ref .func))) [0]⟩] [⟨false, true, (.cons (.ref .slice) (.last (.ref .func))), [(.slice 1 (.cons (.int .i64) (.last (.int .i64))) [] 0 n, .func (.func 104) [] [])]⟩, ⟨false, false, (.cons (.int .i64) (.last (.int .i64))), l⟩] (out102 n l) := by kernel_rfl

noncomputable def C188 : Ctx := ⟨Go.Proofs.Tryd.prog, D, G102, meth18, fun _ => []⟩
def ann188 (_n : Nat) (_i _j : Int) (_l : List (Int × Int)) : Nat → St → Option Ann := fun _ _ => none
def out188 (n : Nat) (i j : Int) (l : List (Int × Int)) : COut := ⟨[n = l.length, (0 ≤ i ∧ i < n) ∧ 0 ≤ j ∧ j < n], .v .bool (ltQ (l.getD i.toNat qz) (l.getD j.toNat qz)), [], []⟩
def sp188 : Spec := fun args ins => match args, ins with
  | [⟨.ref .ptr, .ptr 0 (.cons (.ref .slice) (.last (.ref .func))) [0]⟩, ⟨.int .i64, i⟩, ⟨.int .i64, j⟩], [⟨false, true, (.cons (.ref .slice) (.last (.ref .func))), [(.slice 1 (.cons (.int .i64) (.last (.int .i64))) [] 0 n, .func (.func 104) [] [])]⟩, ⟨false, false, (.cons (.int .i64) (.last (.int .i64))), l⟩] => some (out188 n i j l)
  | _, _ => none
def G188 := addG G102 193 sp188
def P188 (n : Nat) (i j : Int) (l : List (Int × Int)) : Prop :=
 ((0≤i∧i<(n:Int))∧0+i.toNat<List.length l∧(0≤j∧j<(n:Int))∧0+j.toNat<List.length l)∧ltQ ((List.getD l (0+i.toNat) ((0:Int),(0:Int))).1,(List.getD l (0+i.toNat) ((0:Int),(0:Int))).2) ((List.getD l (0+j.toNat) ((0:Int),(0:Int))).1,(List.getD
 l (0+j.toNat) ((0:Int),(0:Int))).2)=ltQ (List.getD l i.toNat qz) (List.getD l j.toNat qz)∧0=0∧n=n∧false=false∧l=l∧false=false
theorem vc188 (n : Nat) (i j : Int) (l : List (Int × Int)) : P188 n i j l = vcFun C188 (ann188 n i j l) Go.Proofs.Tryd.f193 [⟨.ref .ptr, .ptr 0 (.cons (.ref .slice) (.last (.ref .func))) [0]⟩, ⟨.int .i64, i⟩, ⟨.int .i64, j⟩] [⟨false, true, (.cons (.ref .slice) (.last (.ref .func))), [(.slice 1 (.cons (.int .i64) (.last (.int .i64))) [] 0 n, .func (.func 104) [] [])]⟩, ⟨false, false, (.cons (.int .i64) (.last (.int .i64))), l⟩] (out188 n i j l) := by kernel_rfl

noncomputable def C191 : Ctx := ⟨Go.Proofs.Tryd.prog, D, G188, meth18, fun _ => []⟩
def ann191 (_n : Nat) (_i _j : Int) (_l : List (Int × Int)) : Nat → St → Option Ann := fun _ _ => none
def out191 (n : Nat) (i j : Int) (l : List (Int × Int)) : COut := ⟨[n = l.length, (0 ≤ i ∧ i < n) ∧ 0 ≤ j ∧ j < n], .tup [], [(1, some ⟨false, false, (.cons (.int .i64) (.last (.int .i64))), swapL qz l i.toNat j.toNat⟩)], []⟩
def sp191 : Spec := fun args ins => match args, ins with
  | [⟨.ref .ptr, .ptr 0 (.cons (.ref .slice) (.last (.ref .func))) [0]⟩, ⟨.int .i64, i⟩, ⟨.int .i64, j⟩], [⟨false, true, (.cons (.ref .slice) (.last (.ref .func))), [(.slice 1 (.cons (.int .i64) (.last (.int .i64))) [] 0 n, .func (.func 104) [] [])]⟩, ⟨false, false, (.cons (.int .i64) (.last (.int .i64))), l⟩] => some (out191 n i j l)
  | _, _ => none
def G191 := addG G188 196 sp191
def P191 (n : Nat) (i j : Int) (l : List (Int × Int)) : Prop :=
 ((0≤j∧j<(n:Int))∧0+j.toNat<List.length l∧(0≤i∧i<(n:Int))∧0+i.toNat<List.length l∧(0≤i∧i<(n:Int))∧0+i.toNat<List.length l∧(0≤j∧j<(n:Int))∧0+j.toNat<List.length (List.set l (0+i.toNat) (List.getD l (0+j.toNat) ((0:Int),(0:Int)))))∧0=0∧n=n∧false=false∧List.set
 (List.set l (0+i.toNat) (List.getD l (0+j.toNat) ((0:Int),(0:Int)))) (0+j.toNat) (List.getD l (0+i.toNat) ((0:Int),(0:Int)))=swapL qz l i.toNat j.toNat∧false=false
theorem vc191 (n : Nat) (i j : Int) (l : List (Int × Int)) : P191 n i j l = vcFun C191 (ann191 n i j l) Go.Proofs.Tryd.f196 [⟨.ref .ptr, .ptr 0 (.cons (.ref .slice) (.last (.ref .func))) [0]⟩, ⟨.int .i64, i⟩, ⟨.int .i64, j⟩] [⟨false, true, (.cons (.ref .slice) (.last (.ref .func))), [(.slice 1 (.cons (.int .i64) (.last (.int .i64))) [] 0 n, .func (.func 104) [] [])]⟩, ⟨false, false, (.cons (.int .i64) (.last (.int .i64))), l⟩] (out191 n i j l) := by kernel_rfl

noncomputable def C190 : Ctx := ⟨Go.Proofs.Tryd.prog, D, G191, meth18, fun _ => []⟩
def ann190 (_n : Nat) (_l : List (Int × Int)) (_a _b : Int) : Nat → St → Option Ann := fun _ _ => none
def out190 (n : Nat) (l : List (Int × Int)) (a b : Int) : COut := ⟨[n = l.length ∧ n ≤ 1000000], .tup [], [(0, some ⟨false, true, (.cons (.ref .slice) (.last (.ref .func))), [(.slice 2 (.cons (.int .i64) (.last (.int .i64))) [] 0 (n + 1), .func (.func 104) [] [])]⟩), (1, none)], [⟨false, false, (.cons (.int .i64) (.last (.int .i64))), l ++ [(a, b)]⟩]⟩
def sp190 : Spec := fun args ins => match args, ins with
  | [⟨.ref .ptr, .ptr 0 (.cons (.ref .slice) (.last (.ref .func))) [0]⟩, ⟨.ref .iface, .iface 164 (.agg [.int .i64 a, .int .i64 b])⟩], [⟨false, true, (.cons (.ref .slice) (.last (.ref .func))), [(.slice 1 (.cons (.int .i64) (.last (.int .i64))) [] 0 n, .func (.func 104) [] [])]⟩, ⟨false, false, (.cons (.int .i64) (.last (.int .i64))), l⟩] => some (out190 n l a b)
  | _, _ => none
def G190 := addG G191 195 sp190
def P190 (n : Nat) (l : List (Int × Int)) (a b : Int) : Prop :=
 ((1:Nat)≤1∧0+n=List.length l∧(n+List.length (seg ((a,b) :: List.replicate (nat_lit 0) ((0:Int),(0:Int))) (0:Nat) (1:Nat))) * 16≤70368744177664)∧0=0∧n+List.length (seg ((a,b) :: List.replicate (nat_lit 0) ((0:Int),(0:Int))) (0:Nat) (1:Nat))=n+1∧false=false∧List.append
 (List.drop (0:Nat) l) (seg ((a,b) :: List.replicate (nat_lit 0) ((0:Int),(0:Int))) (0:Nat) (1:Nat))=l ++ [(a,b)]∧false=false
theorem vc190 (n : Nat) (l : List (Int × Int)) (a b : Int) : P190 n l a b = vcFun C190 (ann190 n l a b) Go.Proofs.Tryd.f195 [⟨.ref .ptr, .ptr 0 (.cons (.ref .slice) (.last (.ref .func))) [0]⟩, ⟨.ref .iface, .iface 164 (.agg [.int .i64 a, .int .i64 b])⟩] [⟨false, true, (.cons (.ref .slice) (.last (.ref .func))), [(.slice 1 (.cons (.int .i64) (.last (.int .i64))) [] 0 n, .func (.func 104) [] [])]⟩, ⟨false, false, (.cons (.int .i64) (.last (.int .i64))), l⟩] (out190 n l a b) := by kernel_rfl

noncomputable def C189 : Ctx := ⟨Go.Proofs.Tryd.prog, D, G190, meth18, fun _ => []⟩
def ann189 (_n : Nat) (_l : List (Int × Int)) : Nat → St → Option Ann := fun _ _ => none
def out189 (n : Nat) (l : List (Int × Int)) : COut := ⟨[n = l.length ∧ 0 < n ∧ n ≤ 1000000], .v (.ref .iface) (.iface 164 (.agg [.int .i64 (l.getD (n - 1) qz).1, .int .i64 (l.getD (n - 1) qz).2])), [(0, some ⟨false, true, (.cons (.ref .slice) (.last (.ref .func))), [(.slice 1 (.cons (.int .i64) (.last (.int .i64))) [] 0 (n - 1), .func (.func 104) [] [])]⟩), (1, some ⟨false, false, (.cons (.int .i64) (.last (.int .i64))), l.take (n - 1)⟩)], []⟩
def raw189 (n : Nat) (l : List (Int × Int)) : COut := ⟨[n = l.length ∧ 0 < n ∧ n ≤ 1000000], .v (.ref .iface) (.iface 164 (.agg [.int .i64 (l.getD (n - 1) qz).1, .int .i64 (l.getD (n - 1) qz).2])), [(0, some ⟨false, true, (.cons (.ref .slice) (.last (.ref .func))), [(.slice 1 (.cons (.int .i64) (.last (.int .i64))) [] 0 (n - 1), .func (.func 104) [] [])]⟩)], []⟩
def sp189 : Spec := fun args ins => match args, ins with
  | [⟨.ref .ptr, .ptr 0 (.cons (.ref .slice) (.last (.ref .func))) [0]⟩], [⟨false, true, (.cons (.ref .slice) (.last (.ref .func))), [(.slice 1 (.cons (.int .i64) (.last (.int .i64))) [] 0 n, .func (.func 104) [] [])]⟩, ⟨false, false, (.cons (.int .i64) (.last (.int .i64))), l⟩] => some (out189 n l)
  | _, _ => none
def G189 := addG G190 194 sp189
def P189 (n : Nat) (l : List (Int × Int)) : Prop :=
 ((0≤IntKind.wrap .i64 ((n:Int) - 1)∧IntKind.wrap .i64 ((n:Int) - 1)<(n:Int))∧0+(IntKind.wrap .i64 ((n:Int) - 1)).toNat<List.length l)∧(0≤IntKind.wrap .i64 ((n:Int) - 1)∧IntKind.wrap .i64 ((n:Int) - 1)≤(n:Int))∧Ref.agg [Ref.int .i64
 (List.getD l (0+(IntKind.wrap .i64 ((n:Int) - 1)).toNat) ((0:Int),(0:Int))).1,Ref.int .i64 (List.getD l (0+(IntKind.wrap .i64 ((n:Int) - 1)).toNat) ((0:Int),(0:Int))).2]=Ref.agg [Ref.int .i64 (List.getD l (n - 1) qz).1,Ref.int .i64
 (List.getD l (n - 1) qz).2]∧0=0∧(IntKind.wrap .i64 ((n:Int) - 1)).toNat - 0=n - 1∧false=false∧l=l∧false=false
theorem vc189 (n : Nat) (l : List (Int × Int)) : P189 n l = vcFun C189 (ann189 n l) Go.Proofs.Tryd.f194 [⟨.ref .ptr, .ptr 0 (.cons (.ref .slice) (.last (.ref .func))) [0]⟩] [⟨false, true, (.cons (.ref .slice) (.last (.ref .func))), [(.slice 1 (.cons (.int .i64) (.last (.int .i64))) [] 0 n, .func (.func 104) [] [])]⟩, ⟨false, false, (.cons (.int .i64) (.last (.int .i64))), l⟩] (raw189 n l) := by kernel_rfl

end Go.SL.A

/- Queues: their methods. -/
namespace Go.SL.A
open Go Go.SL Go.SL.S

theorem pure101 (a b c d : Int) : P101 a b c d := by
  unfold P101
  intro p hp q hq
  refine ⟨by clear hp hq; cases p <;> cases q <;> simp, ?_⟩
  unfold ltQ
  simp only [hp, hq]
  cases p <;> cases q <;> simp

theorem pure102 (n : Nat) (l : List (Int × Int)) : P102 n l := by unfold P102; simp

theorem pure188 (n : Nat) (i j : Int) (l : List (Int × Int)) (h1 : n = l.length) (h2 : (0 ≤ i ∧ i < n) ∧ 0 ≤ j ∧ j < n) : P188 n i j l := by
  subst h1
  obtain ⟨⟨a1, a2⟩, a3, a4⟩ := h2
  unfold P188
  simp only [Nat.zero_add, eq_self, and_true]
  exact ⟨⟨⟨a1, a2⟩, by omega, ⟨a3, a4⟩, by omega⟩, rfl⟩

theorem pure191 (n : Nat) (i j : Int) (l : List (Int × Int)) (h1 : n = l.length) (h2 : (0 ≤ i ∧ i < n) ∧ 0 ≤ j ∧ j < n) : P191 n i j l := by
  subst h1
  unfold P191 swapL
  simp only [Nat.zero_add, List.length_set, eq_self, true_and, and_true]
  exact ⟨⟨by omega, by omega, by omega, by omega, by omega, by omega, by omega, by omega⟩, rfl⟩

theorem pure190 (n : Nat) (l : List (Int × Int)) (a b : Int) (h : n = l.length ∧ n ≤ 1000000) : P190 n l a b := by
  unfold P190
  simp only [eq_self, true_and, and_true]
  refine ⟨⟨Nat.le_refl _, by omega, ?_⟩, rfl, rfl⟩
  show (n + 1) * 16 ≤ 70368744177664
  omega

theorem pure189 (n : Nat) (l : List (Int × Int)) (h : n = l.length ∧ 0 < n ∧ n ≤ 1000000) : P189 n l := by
  obtain ⟨h1, h2, h3⟩ := h
  unfold P189
  have w : IntKind.i64.wrap ((n : Int) - 1) = ((n - 1 : Nat) : Int) := by rw [w64 (by omega) (by omega)]; omega
  rw [w]
  simp only [Int.toNat_natCast, Nat.zero_add, eq_self, true_and, and_true]
  exact ⟨⟨⟨by omega, by omega⟩, by omega⟩, ⟨by omega, by omega⟩, rfl, rfl⟩
end Go.SL.A

/- Functions do what they are held to do. -/
namespace Go.SL.A
open Go Go.SL Go.SL.S
theorem snd101 : Sound Go.Proofs.Tryd.prog G101 := snd63.add ⟨_, Go.Proofs.Tryd.func104, by kernel_rfl, by kernel_rfl⟩ (by
  intro args ins out h hp
  unfold sp101 at h
  split at h
  · rename_i a b c d
    cases h
    exact vcFun_ok (C := C101) good snd63 methOk18 mix Go.Proofs.Tryd.func104 (ann101 a b c d) (fun hw => by rw [← vc101 a b c d]; exact pure101 a b c d)
  · cases h)

theorem snd102 : Sound Go.Proofs.Tryd.prog G102 := snd101.add ⟨_, Go.Proofs.Tryd.func106, by kernel_rfl, by kernel_rfl⟩ (by
  intro args ins out h hp
  unfold sp102 at h
  split at h
  · rename_i n l
    cases h
    exact vcFun_ok (C := C102) good snd101 methOk18 mix Go.Proofs.Tryd.func106 (ann102 n l) (fun hw => by rw [← vc102 n l]; exact pure102 n l)
  · cases h)

theorem snd188 : Sound Go.Proofs.Tryd.prog G188 := snd102.add ⟨_, Go.Proofs.Tryd.func193, by kernel_rfl, by kernel_rfl⟩ (by
  intro args ins out h hp
  unfold sp188 at h
  split at h
  · rename_i i j n l
    cases h
    exact vcFun_ok (C := C188) good snd102 methOk18 mix Go.Proofs.Tryd.func193 (ann188 n i j l) (fun hw => by rw [← vc188 n i j l]; exact pure188 n i j l hp.1 hp.2)
  · cases h)

theorem snd191 : Sound Go.Proofs.Tryd.prog G191 := snd188.add ⟨_, Go.Proofs.Tryd.func196, by kernel_rfl, by kernel_rfl⟩ (by
  intro args ins out h hp
  unfold sp191 at h
  split at h
  · rename_i i j n l
    cases h
    exact vcFun_ok (C := C191) good snd188 methOk18 mix Go.Proofs.Tryd.func196 (ann191 n i j l) (fun hw => by rw [← vc191 n i j l]; exact pure191 n i j l hp.1 hp.2)
  · cases h)

theorem snd190 : Sound Go.Proofs.Tryd.prog G190 := snd191.add ⟨_, Go.Proofs.Tryd.func195, by kernel_rfl, by kernel_rfl⟩ (by
  intro args ins out h hp
  unfold sp190 at h
  split at h
  · rename_i a b n l
    cases h
    exact vcFun_ok (C := C190) good snd191 methOk18 mix Go.Proofs.Tryd.func195 (ann190 n l a b) (fun hw => by rw [← vc190 n l a b]; exact pure190 n l a b hp)
  · cases h)

theorem snd189 : Sound Go.Proofs.Tryd.prog G189 := snd190.add ⟨_, Go.Proofs.Tryd.func194, by kernel_rfl, by kernel_rfl⟩ (by
  intro args ins out h hp
  unfold sp189 at h
  split at h
  · rename_i n l
    cases h
    exact VCall.cut (out := raw189 n l) (vcFun_ok (C := C189) good snd190 methOk18 mix Go.Proofs.Tryd.func194 (ann189 n l) (fun hw => by rw [← vc189 n l]; exact pure189 n l hp)) rfl 1 ⟨false, false, (.cons (.int .i64) (.last (.int .i64))), l⟩ (n - 1) rfl rfl
  · cases h)

end Go.SL.A

/- Functions and what they are held to do: bound to their code. -/
namespace Go.SL.A
open Go Go.SL Go.SL.S
set_option maxRecDepth 100000
noncomputable def C128b : Ctx := ⟨Go.Proofs.Tryd.prog, D, G189, meth18, fun _ => []⟩
def ann128b (n : Nat) (j : Int) (l : List (Int × Int)) : Nat → St → Option Ann := fun _ _ => some ⟨Nat × List (Int × Int), [0], [0], fun x => [(1, .v (.int .i64) (x.1 : Int))], fun x => [(1, some ⟨false, false, (.cons (.int .i64) (.last (.int .i64))), x.2⟩)], fun x => x.2.length = n ∧ x.1 < n ∧ upL ltQ qz (x.1 + 1) x.2 x.1 = upL ltQ qz (j.toNat + 1) l j.toNat, fun x => x.1⟩
def out128b (n : Nat) (j : Int) (l : List (Int × Int)) : COut := ⟨[n = l.length ∧ n ≤ 1000000, 0 ≤ j ∧ j < n], .tup [], [(1, some ⟨false, false, (.cons (.int .i64) (.last (.int .i64))), upL ltQ qz (j.toNat + 1) l j.toNat⟩)], []⟩
def sp128b : Spec := fun args ins => match args, ins with
  | [⟨.ref .iface, .iface 157 (.ptr 0 (.cons (.ref .slice) (.last (.ref .func))) [0])⟩, ⟨.int .i64, j⟩], [⟨false, true, (.cons (.ref .slice) (.last (.ref .func))), [(.slice 1 (.cons (.int .i64) (.last (.int .i64))) [] 0 n, .func (.func 104) [] [])]⟩, ⟨false, false, (.cons (.int .i64) (.last (.int .i64))), l⟩] => some (out128b n j l)
  | _, _ => none
def G128b := addM G189 137 sp128b
def P128b (n : Nat) (j : Int) (l : List (Int × Int)) : Prop :=
 ∃ (x:Nat × List (Int × Int)),((0=0∧j=(↑ x.1:Int)∧0=0∧n=n∧false=false∧l=x.2∧false=false)∧List.length x.2=n∧x.1<n∧upL ltQ qz (x.1+1) x.2 x.1=upL ltQ qz (j.toNat+1) l j.toNat)∧∀ (x:Nat × List (Int × Int)),List.length x.2=n∧x.1<n∧upL ltQ
 qz (x.1+1) x.2 x.1=upL ltQ qz (j.toNat+1) l j.toNat→(IntKind.min .i64≤(↑ x.1:Int)∧(↑ x.1:Int)≤IntKind.max .i64∧∀ (y:Int × Int),List.Mem y x.2→IntKind.min .i64≤y.1∧y.1≤IntKind.max .i64∧IntKind.min .i64≤y.2∧y.2≤IntKind.max .i64)→(2:Int)≠0∧bif
 decide (IntKind.wrap .i64 (Int.tdiv (IntKind.wrap .i64 ((↑ x.1:Int) - 1)) (2:Int))=(↑ x.1:Int)) then (true=false→false=true)∧0=0∧n=n∧false=false∧x.2=upL ltQ qz (j.toNat+1) l j.toNat∧false=false else (n=List.length x.2∧(0≤(↑ x.1:Int)∧(↑
 x.1:Int)<(n:Int))∧0≤IntKind.wrap .i64 (Int.tdiv (IntKind.wrap .i64 ((↑ x.1:Int) - 1)) (2:Int))∧IntKind.wrap .i64 (Int.tdiv (IntKind.wrap .i64 ((↑ x.1:Int) - 1)) (2:Int))<(n:Int))∧bif !ltQ (List.getD x.2 (↑ x.1:Int).toNat qz) (List.getD
 x.2 (IntKind.wrap .i64 (Int.tdiv (IntKind.wrap .i64 ((↑ x.1:Int) - 1)) (2:Int))).toNat qz) then 0=0∧n=n∧false=false∧x.2=upL ltQ qz (j.toNat+1) l j.toNat∧false=false else (n=List.length x.2∧(0≤IntKind.wrap .i64 (Int.tdiv (IntKind.wrap
 .i64 ((↑ x.1:Int) - 1)) (2:Int))∧IntKind.wrap .i64 (Int.tdiv (IntKind.wrap .i64 ((↑ x.1:Int) - 1)) (2:Int))<(n:Int))∧0≤(↑ x.1:Int)∧(↑ x.1:Int)<(n:Int))∧∃ (y:Nat × List (Int × Int)),(0=0∧IntKind.wrap .i64 (Int.tdiv (IntKind.wrap .i64
 ((↑ x.1:Int) - 1)) (2:Int))=(↑ y.1:Int)∧0=0∧n=n∧false=false∧swapL qz x.2 (IntKind.wrap .i64 (Int.tdiv (IntKind.wrap .i64 ((↑ x.1:Int) - 1)) (2:Int))).toNat (↑ x.1:Int).toNat=y.2∧false=false)∧(List.length y.2=n∧y.1<n∧upL ltQ qz (y.1+1)
 y.2 y.1=upL ltQ qz (j.toNat+1) l j.toNat)∧y.1<x.1
theorem vc128b (n : Nat) (j : Int) (l : List (Int × Int)) : P128b n j l = vcFun C128b (ann128b n j l) Go.Proofs.Tryd.f137 [⟨.ref .iface, .iface 157 (.ptr 0 (.cons (.ref .slice) (.last (.ref .func))) [0])⟩, ⟨.int .i64, j⟩] [⟨false, true, (.cons (.ref .slice) (.last (.ref .func))), [(.slice 1 (.cons (.int .i64) (.last (.int .i64))) [] 0 n, .func (.func 104) [] [])]⟩, ⟨false, false, (.cons (.int .i64) (.last (.int .i64))), l⟩] (out128b n j l) := by kernel_rfl

noncomputable def C129b : Ctx := ⟨Go.Proofs.Tryd.prog, D, G128b, meth18, fun _ => []⟩
def ann129b (n : Nat) (i m : Int) (l : List (Int × Int)) : Nat → St → Option Ann := fun _ _ => some ⟨Nat × List (Int × Int), [0, 1, 2], [0], fun x => [(7, .v (.int .i64) (x.1 : Int))], fun x => [(1, some ⟨false, false, (.cons (.int .i64) (.last (.int .i64))), x.2⟩)], fun x => x.2.length = n ∧ x.1 ≤ 1000000 ∧ downL ltQ qz m.toNat (m.toNat - x.1) x.2 x.1 = downL ltQ qz m.toNat (m.toNat - i.toNat) l i.toNat, fun x => m.toNat - x.1⟩
def out129b (n : Nat) (i m : Int) (l : List (Int × Int)) : COut := ⟨[n = l.length ∧ n ≤ 1000000, (0 ≤ i ∧ i ≤ 1000000) ∧ 0 ≤ m ∧ m ≤ n], .v .bool (decide (i < ((downL ltQ qz m.toNat (m.toNat - i.toNat) l i.toNat).2 : Nat))), [(1, some ⟨false, false, (.cons (.int .i64) (.last (.int .i64))), (downL ltQ qz m.toNat (m.toNat - i.toNat) l i.toNat).1⟩)], []⟩
def sp129b : Spec := fun args ins => match args, ins with
  | [⟨.ref .iface, .iface 157 (.ptr 0 (.cons (.ref .slice) (.last (.ref .func))) [0])⟩, ⟨.int .i64, i⟩, ⟨.int .i64, m⟩], [⟨false, true, (.cons (.ref .slice) (.last (.ref .func))), [(.slice 1 (.cons (.int .i64) (.last (.int .i64))) [] 0 n, .func (.func 104) [] [])]⟩, ⟨false, false, (.cons (.int .i64) (.last (.int .i64))), l⟩] => some (out129b n i m l)
  | _, _ => none
def G129b := addM G128b 138 sp129b
def P129b (n : Nat) (i m : Int) (l : List (Int × Int)) : Prop :=
 ∃ (x:Nat × List (Int × Int)),((0=0∧i=i∧m=m∧i=(↑ x.1:Int)∧0=0∧n=n∧false=false∧l=x.2∧false=false)∧List.length x.2=n∧x.1≤1000000∧downL ltQ qz m.toNat (m.toNat - x.1) x.2 x.1=downL ltQ qz m.toNat (m.toNat - i.toNat) l i.toNat)∧∀ (x:Nat
 × List (Int × Int)),List.length x.2=n∧x.1≤1000000∧downL ltQ qz m.toNat (m.toNat - x.1) x.2 x.1=downL ltQ qz m.toNat (m.toNat - i.toNat) l i.toNat→(IntKind.min .i64≤(↑ x.1:Int)∧(↑ x.1:Int)≤IntKind.max .i64∧∀ (y:Int × Int),List.Mem y
 x.2→IntKind.min .i64≤y.1∧y.1≤IntKind.max .i64∧IntKind.min .i64≤y.2∧y.2≤IntKind.max .i64)→∀ (b:Bool),decide (m≤IntKind.wrap .i64 (IntKind.wrap .i64 ((2:Int) * (↑ x.1:Int))+1))=b→(((!b)=true→(!b)=true)∧(b=false→(!b)=true))∧bif bif b then
 true else decide (IntKind.wrap .i64 (IntKind.wrap .i64 ((2:Int) * (↑ x.1:Int))+1)<0) then decide (i<(↑ x.1:Int))=decide (i<(↑ (downL ltQ qz m.toNat (m.toNat - i.toNat) l i.toNat).2:Int))∧0=0∧n=n∧false=false∧x.2=(downL ltQ qz m.toNat
 (m.toNat - i.toNat) l i.toNat).1∧false=false else bif decide (IntKind.wrap .i64 (IntKind.wrap .i64 (IntKind.wrap .i64 ((2:Int) * (↑ x.1:Int))+1)+1)<m) then (n=List.length x.2∧(0≤IntKind.wrap .i64 (IntKind.wrap .i64 (IntKind.wrap .i64
 ((2:Int) * (↑ x.1:Int))+1)+1)∧IntKind.wrap .i64 (IntKind.wrap .i64 (IntKind.wrap .i64 ((2:Int) * (↑ x.1:Int))+1)+1)<(n:Int))∧0≤IntKind.wrap .i64 (IntKind.wrap .i64 ((2:Int) * (↑ x.1:Int))+1)∧IntKind.wrap .i64 (IntKind.wrap .i64 ((2:Int)
 * (↑ x.1:Int))+1)<(n:Int))∧bif ltQ (List.getD x.2 (IntKind.wrap .i64 (IntKind.wrap .i64 (IntKind.wrap .i64 ((2:Int) * (↑ x.1:Int))+1)+1)).toNat qz) (List.getD x.2 (IntKind.wrap .i64 (IntKind.wrap .i64 ((2:Int) * (↑ x.1:Int))+1)).toNat
 qz) then (n=List.length x.2∧(0≤IntKind.wrap .i64 (IntKind.wrap .i64 (IntKind.wrap .i64 ((2:Int) * (↑ x.1:Int))+1)+1)∧IntKind.wrap .i64 (IntKind.wrap .i64 (IntKind.wrap .i64 ((2:Int) * (↑ x.1:Int))+1)+1)<(n:Int))∧0≤(↑ x.1:Int)∧(↑ x.1:Int)<(n:Int))∧bif
 !ltQ (List.getD x.2 (IntKind.wrap .i64 (IntKind.wrap .i64 (IntKind.wrap .i64 ((2:Int) * (↑ x.1:Int))+1)+1)).toNat qz) (List.getD x.2 (↑ x.1:Int).toNat qz) then decide (i<(↑ x.1:Int))=decide (i<(↑ (downL ltQ qz m.toNat (m.toNat - i.toNat)
 l i.toNat).2:Int))∧0=0∧n=n∧false=false∧x.2=(downL ltQ qz m.toNat (m.toNat - i.toNat) l i.toNat).1∧false=false else (n=List.length x.2∧(0≤(↑ x.1:Int)∧(↑ x.1:Int)<(n:Int))∧0≤IntKind.wrap .i64 (IntKind.wrap .i64 (IntKind.wrap .i64 ((2:Int)
 * (↑ x.1:Int))+1)+1)∧IntKind.wrap .i64 (IntKind.wrap .i64 (IntKind.wrap .i64 ((2:Int) * (↑ x.1:Int))+1)+1)<(n:Int))∧∃ (y:Nat × List (Int × Int)),(0=0∧i=i∧m=m∧IntKind.wrap .i64 (IntKind.wrap .i64 (IntKind.wrap .i64 ((2:Int) * (↑ x.1:Int))+1)+1)=(↑
 y.1:Int)∧0=0∧n=n∧false=false∧swapL qz x.2 (↑ x.1:Int).toNat (IntKind.wrap .i64 (IntKind.wrap .i64 (IntKind.wrap .i64 ((2:Int) * (↑ x.1:Int))+1)+1)).toNat=y.2∧false=false)∧(List.length y.2=n∧y.1≤1000000∧downL ltQ qz m.toNat (m.toNat
 - y.1) y.2 y.1=downL ltQ qz m.toNat (m.toNat - i.toNat) l i.toNat)∧m.toNat - y.1<m.toNat - x.1 else (n=List.length x.2∧(0≤IntKind.wrap .i64 (IntKind.wrap .i64 ((2:Int) * (↑ x.1:Int))+1)∧IntKind.wrap .i64 (IntKind.wrap .i64 ((2:Int)
 * (↑ x.1:Int))+1)<(n:Int))∧0≤(↑ x.1:Int)∧(↑ x.1:Int)<(n:Int))∧bif !ltQ (List.getD x.2 (IntKind.wrap .i64 (IntKind.wrap .i64 ((2:Int) * (↑ x.1:Int))+1)).toNat qz) (List.getD x.2 (↑ x.1:Int).toNat qz) then decide (i<(↑ x.1:Int))=decide
 (i<(↑ (downL ltQ qz m.toNat (m.toNat - i.toNat) l i.toNat).2:Int))∧0=0∧n=n∧false=false∧x.2=(downL ltQ qz m.toNat (m.toNat - i.toNat) l i.toNat).1∧false=false else (n=List.length x.2∧(0≤(↑ x.1:Int)∧(↑ x.1:Int)<(n:Int))∧0≤IntKind.wrap
 .i64 (IntKind.wrap .i64 ((2:Int) * (↑ x.1:Int))+1)∧IntKind.wrap .i64 (IntKind.wrap .i64 ((2:Int) * (↑ x.1:Int))+1)<(n:Int))∧∃ (y:Nat × List (Int × Int)),(0=0∧i=i∧m=m∧IntKind.wrap .i64 (IntKind.wrap .i64 ((2:Int) * (↑ x.1:Int))+1)=(↑
 y.1:Int)∧0=0∧n=n∧false=false∧swapL qz x.2 (↑ x.1:Int).toNat (IntKind.wrap .i64 (IntKind.wrap .i64 ((2:Int) * (↑ x.1:Int))+1)).toNat=y.2∧false=false)∧(List.length y.2=n∧y.1≤1000000∧downL ltQ qz m.toNat (m.toNat - y.1) y.2 y.1=downL ltQ
 qz m.toNat (m.toNat - i.toNat) l i.toNat)∧m.toNat - y.1<m.toNat - x.1 else (false=true→false=true)∧(n=List.length x.2∧(0≤IntKind.wrap .i64 (IntKind.wrap .i64 ((2:Int) * (↑ x.1:Int))+1)∧IntKind.wrap .i64 (IntKind.wrap .i64 ((2:Int) *
 (↑ x.1:Int))+1)<(n:Int))∧0≤(↑ x.1:Int)∧(↑ x.1:Int)<(n:Int))∧bif !ltQ (List.getD x.2 (IntKind.wrap .i64 (IntKind.wrap .i64 ((2:Int) * (↑ x.1:Int))+1)).toNat qz) (List.getD x.2 (↑ x.1:Int).toNat qz) then decide (i<(↑ x.1:Int))=decide
 (i<(↑ (downL ltQ qz m.toNat (m.toNat - i.toNat) l i.toNat).2:Int))∧0=0∧n=n∧false=false∧x.2=(downL ltQ qz m.toNat (m.toNat - i.toNat) l i.toNat).1∧false=false else (n=List.length x.2∧(0≤(↑ x.1:Int)∧(↑ x.1:Int)<(n:Int))∧0≤IntKind.wrap
 .i64 (IntKind.wrap .i64 ((2:Int) * (↑ x.1:Int))+1)∧IntKind.wrap .i64 (IntKind.wrap .i64 ((2:Int) * (↑ x.1:Int))+1)<(n:Int))∧∃ (y:Nat × List (Int × Int)),(0=0∧i=i∧m=m∧IntKind.wrap .i64 (IntKind.wrap .i64 ((2:Int) * (↑ x.1:Int))+1)=(↑
 y.1:Int)∧0=0∧n=n∧false=false∧swapL qz x.2 (↑ x.1:Int).toNat (IntKind.wrap .i64 (IntKind.wrap .i64 ((2:Int) * (↑ x.1:Int))+1)).toNat=y.2∧false=false)∧(List.length y.2=n∧y.1≤1000000∧downL ltQ qz m.toNat (m.toNat - y.1) y.2 y.1=downL ltQ
 qz m.toNat (m.toNat - i.toNat) l i.toNat)∧m.toNat - y.1<m.toNat - x.1
theorem vc129b (n : Nat) (i m : Int) (l : List (Int × Int)) : P129b n i m l = vcFun C129b (ann129b n i m l) Go.Proofs.Tryd.f138 [⟨.ref .iface, .iface 157 (.ptr 0 (.cons (.ref .slice) (.last (.ref .func))) [0])⟩, ⟨.int .i64, i⟩, ⟨.int .i64, m⟩] [⟨false, true, (.cons (.ref .slice) (.last (.ref .func))), [(.slice 1 (.cons (.int .i64) (.last (.int .i64))) [] 0 n, .func (.func 104) [] [])]⟩, ⟨false, false, (.cons (.int .i64) (.last (.int .i64))), l⟩] (out129b n i m l) := by kernel_rfl

noncomputable def C94b : Ctx := ⟨Go.Proofs.Tryd.prog, D, G129b, meth18, fun _ => []⟩
def ann94b (_n : Nat) (_l : List (Int × Int)) (_a _b : Int) : Nat → St → Option Ann := fun _ _ => none
def out94b (n : Nat) (l : List (Int × Int)) (a b : Int) : COut := ⟨[n = l.length ∧ n ≤ 1000], .tup [], [(0, some ⟨false, true, (.cons (.ref .slice) (.last (.ref .func))), [(.slice 2 (.cons (.int .i64) (.last (.int .i64))) [] 0 (n + 1), .func (.func 104) [] [])]⟩), (1, none)], [⟨false, false, (.cons (.int .i64) (.last (.int .i64))), pushL ltQ qz l (a, b)⟩]⟩
def sp94b : Spec := fun args ins => match args, ins with
  | [⟨.ref .iface, .iface 157 (.ptr 0 (.cons (.ref .slice) (.last (.ref .func))) [0])⟩, ⟨.ref .iface, .iface 164 (.agg [.int .i64 a, .int .i64 b])⟩], [⟨false, true, (.cons (.ref .slice) (.last (.ref .func))), [(.slice 1 (.cons (.int .i64) (.last (.int .i64))) [] 0 n, .func (.func 104) [] [])]⟩, ⟨false, false, (.cons (.int .i64) (.last (.int .i64))), l⟩] => some (out94b n l a b)
  | _, _ => none
def G94b := addM G129b 105 sp94b
def P94b (n : Nat) (l : List (Int × Int)) (a b : Int) : Prop :=
 (n=List.length l∧n≤1000000)∧((n+1=List.length (l ++ [(a,b)])∧n+1≤1000000)∧0≤IntKind.wrap .i64 ((↑ (n+1):Int) - 1)∧IntKind.wrap .i64 ((↑ (n+1):Int) - 1)<(↑ (n+1):Int))∧0=0∧n+1=n+1∧false=false∧upL ltQ qz ((IntKind.wrap .i64 ((↑ (n+1):Int)
 - 1)).toNat+1) (l ++ [(a,b)]) (IntKind.wrap .i64 ((↑ (n+1):Int) - 1)).toNat=pushL ltQ qz l (a,b)∧false=false
theorem vc94b (n : Nat) (l : List (Int × Int)) (a b : Int) : P94b n l a b = vcFun C94b (ann94b n l a b) Go.Proofs.Tryd.f105 [⟨.ref .iface, .iface 157 (.ptr 0 (.cons (.ref .slice) (.last (.ref .func))) [0])⟩, ⟨.ref .iface, .iface 164 (.agg [.int .i64 a, .int .i64 b])⟩] [⟨false, true, (.cons (.ref .slice) (.last (.ref .func))), [(.slice 1 (.cons (.int .i64) (.last (.int .i64))) [] 0 n, .func (.func 104) [] [])]⟩, ⟨false, false, (.cons (.int .i64) (.last (.int .i64))), l⟩] (out94b n l a b) := by kernel_rfl

noncomputable def C103 : Ctx := ⟨Go.Proofs.Tryd.prog, D, G94b, meth18, fun _ => []⟩
def ann103 (_n : Nat) (_l : List (Int × Int)) : Nat → St → Option Ann := fun _ _ => none
def out103 (n : Nat) (l : List (Int × Int)) : COut := ⟨[n = l.length ∧ 0 < n ∧ n ≤ 1000], .v (.ref .iface) (.iface 164 (.agg [.int .i64 (l.getD 0 qz).1, .int .i64 (l.getD 0 qz).2])), [(0, some ⟨false, true, (.cons (.ref .slice) (.last (.ref .func))), [(.slice 1 (.cons (.int .i64) (.last (.int .i64))) [] 0 (n - 1), .func (.func 104) [] [])]⟩), (1, some ⟨false, false, (.cons (.int .i64) (.last (.int .i64))), popL ltQ qz l⟩)], []⟩
def sp103 : Spec := fun args ins => match args, ins with
  | [⟨.ref .iface, .iface 157 (.ptr 0 (.cons (.ref .slice) (.last (.ref .func))) [0])⟩], [⟨false, true, (.cons (.ref .slice) (.last (.ref .func))), [(.slice 1 (.cons (.int .i64) (.last (.int .i64))) [] 0 n, .func (.func 104) [] [])]⟩, ⟨false, false, (.cons (.int .i64) (.last (.int .i64))), l⟩] => some (out103 n l)
  | _, _ => none
def G103 := addG G94b 107 sp103
def P103 (n : Nat) (l : List (Int × Int)) : Prop :=
 (n=List.length l∧((0:Int)≤0∧0<(n:Int))∧0≤IntKind.wrap .i64 ((n:Int) - 1)∧IntKind.wrap .i64 ((n:Int) - 1)<(n:Int))∧((n=List.length (swapL qz l (0:Nat) (IntKind.wrap .i64 ((n:Int) - 1)).toNat)∧n≤1000000)∧((0:Int)≤0∧(0:Int)≤1000000)∧0≤IntKind.wrap
 .i64 ((n:Int) - 1)∧IntKind.wrap .i64 ((n:Int) - 1)≤(n:Int))∧(n=List.length (downL ltQ qz (IntKind.wrap .i64 ((n:Int) - 1)).toNat ((IntKind.wrap .i64 ((n:Int) - 1)).toNat - 0) (swapL qz l (0:Nat) (IntKind.wrap .i64 ((n:Int) - 1)).toNat)
 (0:Nat)).1∧0<n∧n≤1000000)∧Ref.agg [Ref.int .i64 (List.getD (downL ltQ qz (IntKind.wrap .i64 ((n:Int) - 1)).toNat ((IntKind.wrap .i64 ((n:Int) - 1)).toNat - 0) (swapL qz l (0:Nat) (IntKind.wrap .i64 ((n:Int) - 1)).toNat) (0:Nat)).1 (n
 - 1) qz).1,Ref.int .i64 (List.getD (downL ltQ qz (IntKind.wrap .i64 ((n:Int) - 1)).toNat ((IntKind.wrap .i64 ((n:Int) - 1)).toNat - 0) (swapL qz l (0:Nat) (IntKind.wrap .i64 ((n:Int) - 1)).toNat) (0:Nat)).1 (n - 1) qz).2]=Ref.agg [Ref.int
 .i64 (List.getD l (0:Nat) qz).1,Ref.int .i64 (List.getD l (0:Nat) qz).2]∧0=0∧n - 1=n - 1∧false=false∧List.take (n - 1) (downL ltQ qz (IntKind.wrap .i64 ((n:Int) - 1)).toNat ((IntKind.wrap .i64 ((n:Int) - 1)).toNat - 0) (swapL qz l (0:Nat)
 (IntKind.wrap .i64 ((n:Int) - 1)).toNat) (0:Nat)).1=popL ltQ qz l∧false=false
theorem vc103 (n : Nat) (l : List (Int × Int)) : P103 n l = vcFun C103 (ann103 n l) Go.Proofs.Tryd.f107 [⟨.ref .iface, .iface 157 (.ptr 0 (.cons (.ref .slice) (.last (.ref .func))) [0])⟩] [⟨false, true, (.cons (.ref .slice) (.last (.ref .func))), [(.slice 1 (.cons (.int .i64) (.last (.int .i64))) [] 0 n, .func (.func 104) [] [])]⟩, ⟨false, false, (.cons (.int .i64) (.last (.int .i64))), l⟩] (out103 n l) := by kernel_rfl

end Go.SL.A

/- Queues: up, down, push, pop. -/
namespace Go.SL.A
open Go Go.SL Go.SL.S

theorem pure128b (n : Nat) (j : Int) (l : List (Int × Int)) (h1 : n = l.length ∧ n ≤ 1000000) (h2 : 0 ≤ j ∧ j < n) : P128b n j l := by
  obtain ⟨rfl, h1⟩ := h1
  unfold P128b
  simp only [eq_self, true_and, and_true, Int.toNat_natCast]
  refine ⟨(j.toNat, l), ⟨⟨(Int.toNat_of_nonneg h2.1).symm, rfl⟩, rfl, by simp only; omega, rfl⟩, fun x hx _ => ?_⟩
  obtain ⟨k, L⟩ := x
  obtain ⟨hl, hk, he⟩ := hx
  simp only at hl hk he ⊢
  rw [half_up (by omega)]
  simp only [Int.toNat_natCast]
  refine ⟨by decide, ?_⟩
  by_cases h0 : (k - 1) / 2 = k
  · have h0' : (((k - 1) / 2 : Nat) : Int) = (k : Int) := by rw [h0]
    rw [decide_eq_true h0', cond_true]
    refine ⟨by simp, ?_⟩
    rw [upL, decide_eq_true h0] at he
    exact he
  · have h0' : ¬ (((k - 1) / 2 : Nat) : Int) = (k : Int) := by omega
    rw [decide_eq_false h0', cond_false]
    refine ⟨⟨hl.symm, ⟨by omega, by omega⟩, by omega, by omega⟩, ?_⟩
    rw [upL, decide_eq_false h0] at he
    cases hlt : ltQ (L.getD k qz) (L.getD ((k - 1) / 2) qz) with
    | false =>
      rw [hlt] at he
      simp only [Bool.not_false, cond_true]
      exact he
    | true =>
      rw [hlt] at he
      simp only [Bool.not_true, cond_false]
      simp only at he
      rw [upL_fuel ltQ qz k _ _ (by omega)] at he
      refine ⟨⟨hl.symm, ⟨by omega, by omega⟩, by omega, by omega⟩, ((k - 1) / 2, swapL qz L ((k - 1) / 2) k), ⟨rfl, rfl⟩, ⟨by simp only [swapL_len]; exact hl, by simp only; omega, he⟩, by simp only; omega⟩

theorem tail129b {n : Nat} {i m : Int} {L : List (Int × Int)} {R : List (Int × Int) × Nat} {k c : Nat} (hl : L.length = n) (hn : n ≤ 1000000) (hm : m.toNat ≤ n) (he : downL ltQ qz m.toNat (m.toNat - k) L k = R) (hk : 2 * k + 1 < m.toNat)
    (hc : childL ltQ qz L k m.toNat = c) (hcm : c < m.toNat) (hkc : k < c) :
    (n = L.length ∧ (0 ≤ (c : Int) ∧ (c : Int) < (n : Int)) ∧ 0 ≤ (k : Int) ∧ (k : Int) < (n : Int)) ∧
    bif !ltQ (L.getD c qz) (L.getD k qz) then decide (i < (k : Int)) = decide (i < (R.2 : Int)) ∧ L = R.1
    else (n = L.length ∧ (0 ≤ (k : Int) ∧ (k : Int) < (n : Int)) ∧ 0 ≤ (c : Int) ∧ (c : Int) < (n : Int)) ∧ ∃ y : Nat × List (Int × Int), ((c : Int) = (y.1 : Int) ∧ swapL qz L k c = y.2) ∧
      (y.2.length = n ∧ y.1 ≤ 1000000 ∧ downL ltQ qz m.toNat (m.toNat - y.1) y.2 y.1 = R) ∧ m.toNat - y.1 < m.toNat - k := by
  refine ⟨⟨hl.symm, ⟨by omega, by omega⟩, by omega, by omega⟩, ?_⟩
  rw [downL_step ltQ qz L hk, hc] at he
  cases hlt : ltQ (L.getD c qz) (L.getD k qz) with
  | false =>
    rw [hlt] at he
    simp only [Bool.not_false, cond_true]
    rw [cond_false] at he
    rw [← he]; exact ⟨rfl, rfl⟩
  | true =>
    rw [hlt, cond_true] at he
    simp only [Bool.not_true, cond_false]
    exact ⟨⟨hl.symm, ⟨by omega, by omega⟩, by omega, by omega⟩, (c, swapL qz L k c), ⟨rfl, rfl⟩, ⟨by simp only [swapL_len]; exact hl, by simp only; omega, he⟩, by simp only; omega⟩

theorem pure129b (n : Nat) (i m : Int) (l : List (Int × Int)) (h1 : n = l.length ∧ n ≤ 1000000) (h2 : (0 ≤ i ∧ i ≤ 1000000) ∧ 0 ≤ m ∧ m ≤ n) : P129b n i m l := by
  obtain ⟨rfl, h1⟩ := h1
  obtain ⟨⟨h4, h5⟩, h6, h7⟩ := h2
  unfold P129b
  simp only [eq_self, true_and, and_true, Int.toNat_natCast]
  refine ⟨(i.toNat, l), ⟨⟨(Int.toNat_of_nonneg h4).symm, rfl⟩, rfl, by simp only; omega, rfl⟩, fun x hx _ => ?_⟩
  obtain ⟨k, L⟩ := x
  obtain ⟨hl, hk, he⟩ := hx
  simp only at hl hk he ⊢
  have w1 : IntKind.i64.wrap (IntKind.i64.wrap (2 * (k : Int)) + 1) = ((2 * k + 1 : Nat) : Int) := by
    rw [w64 (n := 2 * (k : Int)) (by omega) (by omega), w64 (by omega) (by omega)]; omega
  have w2 : IntKind.i64.wrap (((2 * k + 1 : Nat) : Int) + 1) = ((2 * k + 2 : Nat) : Int) := by rw [w64 (by omega) (by omega)]; omega
  rw [w1, w2]
  simp only [Int.toNat_natCast]
  rintro _ rfl
  generalize downL ltQ qz m.toNat (m.toNat - i.toNat) l i.toNat = R at *
  by_cases c1 : m ≤ ((2 * k + 1 : Nat) : Int)
  · simp only [c1, decide_true, cond_true, Bool.not_true]
    rw [downL_stop ltQ qz L (by omega)] at he
    rw [← he]
    simp
  · have c2 : ¬ ((2 * k + 1 : Nat) : Int) < 0 := by omega
    simp only [c1, c2, decide_false, cond_false, Bool.not_false]
    refine ⟨by simp, ?_⟩
    have hcc := childL_cases ltQ qz L k m.toNat
    by_cases c3 : ((2 * k + 2 : Nat) : Int) < m
    · simp only [c3, decide_true, cond_true]
      refine ⟨⟨hl.symm, ⟨by omega, by omega⟩, by omega, by omega⟩, ?_⟩
      cases hlt : ltQ (L.getD (2 * k + 2) qz) (L.getD (2 * k + 1) qz) with
      | true =>
        simp only [cond_true]
        refine tail129b hl h1 (by omega) he (by omega) ?_ (by omega) (by omega)
        rcases hcc with ⟨_, h⟩ | ⟨h, _⟩
        · have := h (by omega); rw [hlt] at this; cases this
        · exact h
      | false =>
        simp only [cond_false]
        refine tail129b hl h1 (by omega) he (by omega) ?_ (by omega) (by omega)
        rcases hcc with ⟨h, _⟩ | ⟨_, _, h⟩
        · exact h
        · rw [hlt] at h; cases h
    · simp only [c3, decide_false, cond_false]
      refine ⟨by simp, ?_⟩
      refine tail129b hl h1 (by omega) he (by omega) ?_ (by omega) (by omega)
      rcases hcc with ⟨h, _⟩ | ⟨_, h, _⟩
      · exact h
      · omega

theorem pure94b (n : Nat) (l : List (Int × Int)) (a b : Int) (h1 : n = l.length ∧ n ≤ 1000) : P94b n l a b := by
  obtain ⟨rfl, h1⟩ := h1
  unfold P94b
  have w1 : IntKind.i64.wrap (((l.length + 1 : Nat) : Int) - 1) = (l.length : Int) := by rw [w64 (by omega) (by omega)]; omega
  rw [w1]
  simp only [eq_self, true_and, and_true, Int.toNat_natCast, List.length_append, List.length_singleton]
  exact ⟨by omega, ⟨by omega, ⟨by omega, by omega⟩⟩, rfl⟩

theorem pure103 (n : Nat) (l : List (Int × Int)) (h : n = l.length ∧ 0 < n ∧ n ≤ 1000) : P103 n l := by
  obtain ⟨rfl, h2, h3⟩ := h
  unfold P103
  have w : IntKind.i64.wrap ((l.length : Int) - 1) = ((l.length - 1 : Nat) : Int) := by rw [w64 (by omega) (by omega)]; omega
  rw [w]
  simp only [Int.toNat_natCast, Nat.sub_zero]
  have hs := swapL_getD qz (l := l) (i := 0) (j := l.length - 1) (by omega) (by omega) (l.length - 1)
  rw [if_pos rfl] at hs
  have hk := downL_keep ltQ qz (l.length - 1) (l.length - 1) (swapL qz l 0 (l.length - 1)) 0 (by rw [swapL_len]; omega) (l.length - 1) (Nat.le_refl _)
  rw [hs] at hk
  rw [hk]
  refine ⟨⟨trivial, ⟨by omega, by omega⟩, by omega, by omega⟩, ⟨⟨(swapL_len _ _ _ _).symm, by omega⟩, ⟨by omega, by omega⟩, by omega, by omega⟩, ⟨?_, by omega, by omega⟩, ?_⟩
  · rw [downL_len, swapL_len]
  · simp only [eq_self, true_and, and_true]
    rfl
end Go.SL.A

/- Functions do what they are held to do. -/
namespace Go.SL.A
open Go Go.SL Go.SL.S
theorem snd128b : Sound Go.Proofs.Tryd.prog G128b := snd189.addM ⟨_, Go.Proofs.Tryd.func137, by kernel_rfl, by kernel_rfl⟩ (by
  intro args ins out h hp
  unfold sp128b at h
  split at h
  · rename_i j n l
    cases h
    exact vcFun_ok (C := C128b) good snd189 methOk18 mix Go.Proofs.Tryd.func137 (ann128b n j l) (fun hw => by rw [← vc128b n j l]; exact pure128b n j l hp.1 hp.2)
  · cases h)

theorem snd129b : Sound Go.Proofs.Tryd.prog G129b := snd128b.addM ⟨_, Go.Proofs.Tryd.func138, by kernel_rfl, by kernel_rfl⟩ (by
  intro args ins out h hp
  unfold sp129b at h
  split at h
  · rename_i i m n l
    cases h
    exact vcFun_ok (C := C129b) good snd128b methOk18 mix Go.Proofs.Tryd.func138 (ann129b n i m l) (fun hw => by rw [← vc129b n i m l]; exact pure129b n i m l hp.1 hp.2)
  · cases h)

theorem snd94b : Sound Go.Proofs.Tryd.prog G94b := snd129b.addM ⟨_, Go.Proofs.Tryd.func105, by kernel_rfl, by kernel_rfl⟩ (by
  intro args ins out h hp
  unfold sp94b at h
  split at h
  · rename_i a b n l
    cases h
    exact vcFun_ok (C := C94b) good snd129b methOk18 mix Go.Proofs.Tryd.func105 (ann94b n l a b) (fun hw => by rw [← vc94b n l a b]; exact pure94b n l a b hp)
  · cases h)

theorem snd103 : Sound Go.Proofs.Tryd.prog G103 := snd94b.add ⟨_, Go.Proofs.Tryd.func107, by kernel_rfl, by kernel_rfl⟩ (by
  intro args ins out h hp
  unfold sp103 at h
  split at h
  · rename_i n l
    cases h
    exact vcFun_ok (C := C103) good snd94b methOk18 mix Go.Proofs.Tryd.func107 (ann103 n l) (fun hw => by rw [← vc103 n l]; exact pure103 n l hp)
  · cases h)

end Go.SL.A

/- Give: plain functions. -/
namespace Go.SL.S
open Go Go.SL
def badF (x : Int) : Bool := decide (x < 0) || decide (15 < x)
def rightF (s : List Int) : Bool := !s.any badF
def costF : List Int := (List.range 13).map fun k : Nat => bitsF (k : Int)
def sumC : List Int → Int
  | [] => 0
  | x :: l => bitsF x + sumC l
def giveB (size : Int) : Int := if size < 12 ∨ 24 < size then 0 else 8 * size - 64
def z8 : List Int := [0, 0, 0, 0, 0, 0, 0, 0]
/-- What one pulse more costs. -/
def moreF (k : Int) : Int := costF.getD (k + 1).toNat 0 - costF.getD k.toNat 0

abbrev GS : Type := List (Int × Int) × List Int × Int
def pushQ (s : List Int) : Nat → List (Int × Int)
  | 0 => []
  | i + 1 => pushL ltQ qz (pushQ s i) ((i : Int), s.getD i 0)
def noMore (n bits : Int) : Bool := decide (12 ≤ n) || decide (bits < moreF n)
def giveStep (x : GS) : GS :=
  let t := x.1.getD 0 qz
  let n := x.2.1.getD t.1.toNat 0
  if noMore n x.2.2 then (popL ltQ qz x.1, x.2.1, x.2.2) else (pushL ltQ qz (popL ltQ qz x.1) (t.1, t.2 - 1), x.2.1.set t.1.toNat (n + 1), x.2.2 - moreF n)
def sumK : List Int → Int
  | [] => 0
  | x :: l => x + sumK l
def giveMu (x : GS) : Nat := x.1.length + 2 * (96 - sumK x.2.1).toNat
def giveRun : Nat → GS → GS
  | 0, x => x
  | f + 1, x => match x.1 with
    | [] => x
    | _ => giveRun f (giveStep x)
def giveF (s : List Int) (bits : Int) : List Int := (giveRun 200 (pushQ s 8, z8, bits)).2.1
def giveE (s : List Int) (bits : Int) : Int := if rightF s = false ∨ bits < 0 ∨ 1048576 < bits then 1 else 0
def giveV (s : List Int) (bits : Int) : List Int := if giveE s bits = 0 then giveF s bits else z8

def bestTo (s k : List Int) (bits : Int) : Nat → Int
  | 0 => -1
  | b + 1 => if k.getD b 0 < 12 ∧ moreF (k.getD b 0) ≤ bits ∧ (bestTo s k bits b < 0 ∨ s.getD (bestTo s k bits b).toNat 0 - k.getD (bestTo s k bits b).toNat 0 < s.getD b 0 - k.getD b 0) then (b : Int) else bestTo s k bits b
def refRun (s : List Int) : Nat → List Int × Int → List Int
  | 0, x => x.1
  | f + 1, x => if bestTo s x.1 x.2 8 < 0 then x.1 else
      refRun s f (x.1.set (bestTo s x.1 x.2 8).toNat (x.1.getD (bestTo s x.1 x.2 8).toNat 0 + 1), x.2 - moreF (x.1.getD (bestTo s x.1 x.2 8).toNat 0))
def refF (s : List Int) (bits : Int) : List Int := refRun s 100 (z8, bits)
def held8 (s : List Int) : List Int := s.map fun x => iand .i64 x 15
end Go.SL.S

/- Functions and what they are held to do: bound to their code. -/
namespace Go.SL.A
open Go Go.SL Go.SL.S
set_option maxRecDepth 100000
noncomputable def C131 : Ctx := ⟨Go.Proofs.Tryd.prog, D, G103, meth18, fun _ => []⟩
def ann131 (_x : Int) : Nat → St → Option Ann := fun _ _ => none
def out131 (x : Int) : COut := ⟨[], .v .bool (badF x), [], []⟩
def sp131 : Spec := fun args ins => match args, ins with
  | [⟨.int .i64, x⟩], [] => some (out131 x)
  | _, _ => none
def G131 := addG G103 102 sp131
def P131 (x : Int) : Prop :=
 ∀ (b:Bool),decide (x<0)=b→(((!b)=true→(!b)=true)∧(b=false→(!b)=true))∧(bif b then true else decide (15<x))=badF x
theorem vc131 (x : Int) : P131 x = vcFun C131 (ann131 x) Go.Proofs.Tryd.f102 [⟨.int .i64, x⟩] [] (out131 x) := by kernel_rfl

noncomputable def C90b : Ctx := ⟨Go.Proofs.Tryd.prog, D, G131, meth18, fun _ => []⟩
def ann90b (s : List Int) : Nat → St → Option Ann := fun _ _ => some ⟨Nat, [0, 1, 7], [0], fun i => [(8, .v (.int .i64) (i : Int))], fun _ => [], fun i => i ≤ 8 ∧ findIx badF s 0 = findIx badF (s.drop i) i, fun i => 8 - i⟩
def out90b (s : List Int) : COut := ⟨[], .v (.int .i64) (findIx badF s 0), [], []⟩
def sp90b : Spec := fun args ins => match args, ins with
  | [⟨.ref .slice, .slice 0 (.arr 8 (.int .i64)) [0] 0 8⟩, ⟨.ref .func, .func (.func 102) [] []⟩], [⟨false, true, .arr 8 (.int .i64), [s]⟩] => some (out90b s)
  | _, _ => none
def G90b := addM G131 79 sp90b
def P90b (s : List Int) : Prop :=
 ∃ (x:Nat),((0=0∧0=0∧8=8∧(↑ (8:Nat):Int)=(↑ (8:Nat):Int)∧0=(x:Int)∧s=s∧false=false)∧x≤8∧findIx badF s (0:Nat)=findIx badF (List.drop x s) x)∧∀ (x:Nat),x≤8∧findIx badF s (0:Nat)=findIx badF (List.drop x s) x→IntKind.min .i64≤(x:Int)∧(x:Int)≤IntKind.max
 .i64→bif decide ((x:Int)<(↑ (8:Nat):Int)) then ((0≤(x:Int)∧(x:Int)<(↑ (8:Nat):Int))∧0+(x:Int).toNat<8)∧bif badF (List.getD s (0+(x:Int).toNat) (0:Int)) then (x:Int)=findIx badF s (0:Nat)∧s=s∧false=false else ∃ (y:Nat),(0=0∧0=0∧8=8∧(↑
 (8:Nat):Int)=(↑ (8:Nat):Int)∧IntKind.wrap .i64 ((x:Int)+1)=(y:Int)∧s=s∧false=false)∧(y≤8∧findIx badF s (0:Nat)=findIx badF (List.drop y s) y)∧8 - y<8 - x else (-1:Int)=findIx badF s (0:Nat)∧s=s∧false=false
theorem vc90b (s : List Int) : P90b s = vcFun C90b (ann90b s) Go.Proofs.Tryd.f79 [⟨.ref .slice, .slice 0 (.arr 8 (.int .i64)) [0] 0 8⟩, ⟨.ref .func, .func (.func 102) [] []⟩] [⟨false, true, .arr 8 (.int .i64), [s]⟩] (out90b s) := by kernel_rfl

noncomputable def C130 : Ctx := ⟨Go.Proofs.Tryd.prog, D, G90b, meth18, fun _ => []⟩
def ann130 (_s : List Int) : Nat → St → Option Ann := fun _ _ => none
def out130 (s : List Int) : COut := ⟨[], .v .bool (s.any badF), [], []⟩
def sp130 : Spec := fun args ins => match args, ins with
  | [⟨.ref .slice, .slice 0 (.arr 8 (.int .i64)) [0] 0 8⟩, ⟨.ref .func, .func (.func 102) [] []⟩], [⟨false, true, .arr 8 (.int .i64), [s]⟩] => some (out130 s)
  | _, _ => none
def G130 := addG G90b 68 sp130
def P130 (s : List Int) : Prop :=
 decide (0≤findIx badF s (0:Nat))=List.any s badF∧s=s∧false=false
theorem vc130 (s : List Int) : P130 s = vcFun C130 (ann130 s) Go.Proofs.Tryd.f68 [⟨.ref .slice, .slice 0 (.arr 8 (.int .i64)) [0] 0 8⟩, ⟨.ref .func, .func (.func 102) [] []⟩] [⟨false, true, .arr 8 (.int .i64), [s]⟩] (out130 s) := by kernel_rfl

noncomputable def C99 : Ctx := ⟨Go.Proofs.Tryd.prog, D, G130, meth18, fun _ => []⟩
def ann99 (_s : List Int) : Nat → St → Option Ann := fun _ _ => none
def out99 (s : List Int) : COut := ⟨[], .v .bool (rightF s), [], []⟩
def sp99 : Spec := fun args ins => match args, ins with
  | [⟨.arr 8 (.int .i64), s⟩], [] => some (out99 s)
  | _, _ => none
def G99 := addG G130 62 sp99
def P99 (s : List Int) : Prop :=
 (8:Nat)≤9223372036854775807∧(!List.any s badF)=rightF s
theorem vc99 (s : List Int) : P99 s = vcFun C99 (ann99 s) Go.Proofs.Tryd.f62 [⟨.arr 8 (.int .i64), s⟩] [] (out99 s) := by kernel_rfl

noncomputable def C100 : Ctx := ⟨Go.Proofs.Tryd.prog, D, G99, meth18, fun _ => []⟩
def ann100  : Nat → St → Option Ann := fun _ _ => some ⟨Nat, [0, 1], [0], fun i => [(3, .v (.int .i64) (i : Int))], fun i => [(1, some ⟨false, true, .arr 13 (.int .i64), [costF.take i ++ (List.replicate 13 0).drop i]⟩)], fun i => i ≤ 13, fun i => 13 - i⟩
def out100  : COut := ⟨[], .v (.arr 13 (.int .i64)) costF, [], []⟩
def sp100 : Spec := fun args ins => match args, ins with
  | [], [] => some out100
  | _, _ => none
def G100 := addG G99 103 sp100
def P100 : Prop :=
 ∃ (x:Nat),((0=0∧0=0∧0=(x:Int)∧(0:Int) :: List.replicate (nat_lit 12) (0:Int)=List.replicate 13 (0:Int)∧false=false∧(0:Int) :: List.replicate (nat_lit 12) (0:Int)=List.take x costF ++ List.drop x (List.replicate 13 (0:Int))∧false=false)∧x≤13)∧∀
 (x:Nat),x≤13→(IntKind.min .i64≤(x:Int)∧(x:Int)≤IntKind.max .i64∧∀ (y:List Int),List.Mem y [List.take x costF ++ List.drop x (List.replicate 13 (0:Int))]→List.length y=13∧∀ (y_1:Int),List.Mem y_1 y→IntKind.min .i64≤y_1∧y_1≤IntKind.max
 .i64)→bif decide ((x:Int)<13) then ((0≤(x:Int)∧(x:Int)<(↑ (13:Nat):Int))∧(x:Int).toNat<13)∧∃ (y:Nat),(0=0∧0=0∧IntKind.wrap .i64 ((x:Int)+1)=(y:Int)∧(0:Int) :: List.replicate (nat_lit 12) (0:Int)=List.replicate 13 (0:Int)∧false=false∧List.set
 (List.take x costF ++ List.drop x (List.replicate 13 (0:Int))) (x:Int).toNat (bitsF (x:Int))=List.take y costF ++ List.drop y (List.replicate 13 (0:Int))∧false=false)∧y≤13∧13 - y<13 - x else List.append (List.take x costF) (List.drop
 x (List.replicate 13 (0:Int)))=costF
theorem vc100 : P100  = vcFun C100 (ann100 ) Go.Proofs.Tryd.f103 [] [] out100 := by kernel_rfl

noncomputable def C59 : Ctx := ⟨Go.Proofs.Tryd.prog, D, G100, meth18, fun _ => []⟩
def ann59 (_s : Int) : Nat → St → Option Ann := fun _ _ => none
def out59 (s : Int) : COut := ⟨[], .v (.int .i64) (giveB s), [], []⟩
def sp59 : Spec := fun args ins => match args, ins with
  | [⟨.int .i64, s⟩], [] => some (out59 s)
  | _, _ => none
def G59 := addG G100 61 sp59
def P59 (s : Int) : Prop :=
 ∀ (b:Bool),decide (s<12)=b→(((!b)=true→(!b)=true)∧(b=false→(!b)=true))∧bif bif b then true else decide (24<s) then 0=giveB s else IntKind.wrap .i64 (IntKind.wrap .i64 ((8:Int) * s) - 64)=giveB s
theorem vc59 (s : Int) : P59 s = vcFun C59 (ann59 s) Go.Proofs.Tryd.f61 [⟨.int .i64, s⟩] [] (out59 s) := by kernel_rfl

noncomputable def C61 : Ctx := ⟨Go.Proofs.Tryd.prog, D, G59, meth18, fun _ => []⟩
def ann61 (k : Int) : Nat → St → Option Ann := fun _ _ => some ⟨Nat × Int, [], [], fun x => [(3, .v (.int .i64) (x.1 : Int)), (4, .v (.int .i64) x.2)], fun _ => [], fun x => x.1 + bitLen x.2.toNat = bitLen (countF 4 k - 1).toNat ∧ x.2 ≤ 10000000000, fun x => x.2.toNat⟩
def out61 (k : Int) : COut := ⟨[0 ≤ k ∧ k ≤ 12], .v (.int .i64) (bitsF k), [], []⟩
def sp61 : Spec := fun args ins => match args, ins with
  | [⟨.int .i64, k⟩], [] => some (out61 k)
  | _, _ => none
def G61 := addG G59 75 sp61
def P61 (k : Int) : Prop :=
 ((0:Int)≤4∧(4:Int)≤8∧0≤k∧k≤12)∧∃ (x:Nat × Int),((0=(↑ x.1:Int)∧IntKind.wrap .i64 (cnt (4:Nat) k.toNat - 1)=x.2)∧x.1+bitLen x.2.toNat=bitLen (countF (4:Int) k - 1).toNat∧x.2≤10000000000)∧∀ (x:Nat × Int),x.1+bitLen x.2.toNat=bitLen (countF
 (4:Int) k - 1).toNat∧x.2≤10000000000→IntKind.min .i64≤(↑ x.1:Int)∧(↑ x.1:Int)≤IntKind.max .i64∧IntKind.min .i64≤x.2∧x.2≤IntKind.max .i64→bif decide (0<x.2) then (2:Int)≠0∧∃ (y:Nat × Int),(IntKind.wrap .i64 ((↑ x.1:Int)+1)=(↑ y.1:Int)∧IntKind.wrap
 .i64 (Int.tdiv x.2 (2:Int))=y.2)∧(y.1+bitLen y.2.toNat=bitLen (countF (4:Int) k - 1).toNat∧y.2≤10000000000)∧y.2.toNat<x.2.toNat else (↑ x.1:Int)=bitsF k
theorem vc61 (k : Int) : P61 k = vcFun C61 (ann61 k) Go.Proofs.Tryd.f75 [⟨.int .i64, k⟩] [] (out61 k) := by kernel_rfl

end Go.SL.A

/- Give: small functions. -/
namespace Go.SL.A
open Go Go.SL Go.SL.S

theorem hw90b {s : List Int} (hw : Go.SL.allP (List.flatMap (fun a : AV => a.t.wf a.x) [⟨.ref .slice, .slice 0 (.arr 8 (.int .i64)) [0] 0 8⟩, ⟨.ref .func, .func (.func 131) [] []⟩] ++ List.flatMap Blk.wf [⟨false, true, .arr 8 (.int .i64), [s]⟩])) : s.length = 8 := by
  simp only [List.flatMap_cons, List.flatMap_nil, Ty.wf, Blk.wf, List.append_nil, List.nil_append, Go.SL.allP] at hw
  exact (hw s (by simp)).1
theorem pure131 (x : Int) : P131 x := by
  unfold P131
  intro b hb
  refine ⟨by cases b <;> simp, ?_⟩
  unfold badF; rw [hb]
  cases b <;> simp

theorem pure90b (s : List Int) (hl : s.length = 8) : P90b s := by
  unfold P90b
  simp only [eq_self, true_and, and_true, Int.toNat_natCast, Nat.zero_add]
  refine ⟨0, ⟨rfl, by omega, rfl⟩, fun i hi _ => ?_⟩
  obtain ⟨hi, he⟩ := hi
  by_cases h8 : (i : Int) < ((8 : Nat) : Int)
  · have his : i < s.length := by omega
    have ed : s.drop i = s.getD i 0 :: s.drop (i + 1) := by
      rw [List.drop_eq_getElem_cons his]; simp [his]
    rw [ed, findIx] at he
    simp only [h8, decide_true, cond_true]
    refine ⟨by simp; omega, ?_⟩
    cases hb : badF (s.getD i 0) with
    | true => rw [hb, if_pos rfl] at he; simp only [cond_true]; exact he.symm
    | false =>
      rw [hb, if_neg (by simp)] at he
      simp only [cond_false]
      exact ⟨i + 1, step_i (by omega), ⟨by omega, he⟩, by omega⟩
  · have : i = 8 := by omega
    subst this
    simp only [h8, decide_false, cond_false]
    rw [he, List.drop_eq_nil_of_le (by omega)]; rfl

theorem pure130 (s : List Int) (_hl : s.length = 8) : P130 s := by
  unfold P130
  simp only [eq_self, and_true]
  exact findIx_sign badF s 0

theorem pure99 (s : List Int) : P99 s := by
  unfold P99
  exact ⟨by decide, rfl⟩

theorem costF_at {i : Nat} (h : i < 13) : costF[i]? = some (bitsF (i : Int)) := by
  unfold costF
  rw [List.getElem?_map, List.getElem?_range h]; rfl

theorem costF_len : costF.length = 13 := by simp [costF]

theorem cost_end {i : Nat} (h : 13 ≤ i) : List.take i costF ++ List.drop i (List.replicate 13 (0 : Int)) = costF := by
  rw [List.take_of_length_le (by rw [costF_len]; exact h), List.drop_eq_nil_of_le (by simp; exact h), List.append_nil]

theorem pure100 : P100 := by
  unfold P100
  simp only [eq_self, true_and, and_true, Int.toNat_natCast]
  refine ⟨0, ⟨⟨rfl, rfl, rfl⟩, by omega⟩, fun i hi _ => ?_⟩
  by_cases h : (i : Int) < 13
  · simp only [h, decide_true, cond_true]
    exact ⟨⟨by omega, by omega⟩, i + 1, ⟨step_i (by omega), rfl, set_step (by rw [costF_len]; omega) (by simp; omega) (costF_at (by omega))⟩, by omega, by omega⟩
  · simp only [h, decide_false, cond_false]
    exact cost_end (by omega)

theorem bitsF_fits (k : Int) : 0 ≤ bitsF k ∧ bitsF k ≤ 10000000000 := by
  have hc := countF_fits 4 k
  have hb := bitLen_le (m := (countF 4 k - 1).toNat) (by omega)
  have hq : bitsF k = (bitLen (countF 4 k - 1).toNat : Nat) := rfl
  rw [hq]; omega

theorem sumC_fits : ∀ l : List Int, 0 ≤ sumC l ∧ sumC l ≤ l.length * 10000000000
  | [] => by simp [sumC]
  | x :: l => by
    have := sumC_fits l
    have := bitsF_fits x
    simp only [sumC, List.length_cons]; omega

theorem pure59 (s : Int) : P59 s := by
  unfold P59
  intro b hb
  refine ⟨by cases b <;> simp, ?_⟩
  by_cases h1 : s < 12
  · have : b = true := by rw [← hb]; simp [h1]
    rw [this]
    unfold giveB
    rw [if_pos (Or.inl h1)]; rfl
  · have : b = false := by rw [← hb]; simp [h1]
    rw [this]
    by_cases h2 : 24 < s
    · have e : giveB s = 0 := by unfold giveB; rw [if_pos (Or.inr h2)]
      rw [e]
      simp [h2]
    · have e : giveB s = 8 * s - 64 := by unfold giveB; rw [if_neg (by omega)]
      rw [e]
      simp only [h2, decide_false, cond_false]
      rw [w64 (n := 8 * s) (by omega) (by omega), w64 (by omega) (by omega)]

theorem pure61 (k : Int) (hk : 0 ≤ k ∧ k ≤ 12) : P61 k := by
  unfold P61
  have hc : countF 4 k = cnt 4 k.toNat := by unfold countF; rw [if_pos (by simp [mayF]; omega)]; rfl
  have hq : bitsF k = (bitLen (countF 4 k - 1).toNat : Nat) := rfl
  rw [hq, hc]
  have hf := countF_fits 4 k
  rw [hc] at hf
  generalize cnt 4 k.toNat = c at *
  rw [w64 (n := c - 1) (by omega) (by omega)]
  refine ⟨by omega, (0, c - 1), ⟨⟨rfl, rfl⟩, by simp, by simp only; omega⟩, fun x hx _ => ?_⟩
  obtain ⟨m, l⟩ := x
  obtain ⟨h1, h2⟩ := hx
  simp only at h1 h2 ⊢
  have hb := bitLen_le (m := (c - 1).toNat) (by omega)
  by_cases h : 0 < l
  · simp only [h, decide_true, cond_true]
    have w1 : IntKind.i64.wrap ((m : Int) + 1) = ((m + 1 : Nat) : Int) := by rw [w64 (by omega) (by omega)]; simp
    have d := tdm l (k := 2) (by decide)
    have w2 : IntKind.i64.wrap (l.tdiv 2) = l / 2 := by
      generalize l.tdiv 2 = q at *
      generalize l.tmod 2 = r at *
      rw [w64 (by omega) (by omega)]; omega
    refine ⟨by decide, (m + 1, l / 2), ⟨w1, w2⟩, ⟨?_, by simp only; omega⟩, by simp only; omega⟩
    have := bitLen_half (m := l.toNat) (by omega)
    simp only
    rw [show (l / 2).toNat = l.toNat / 2 by omega]; omega
  · simp only [h, decide_false, cond_false]
    have e : bitLen l.toNat = 0 := by rw [show l.toNat = 0 by omega]; rfl
    omega

end Go.SL.A

/- Functions do what they are held to do. -/
namespace Go.SL.A
open Go Go.SL Go.SL.S
theorem snd131 : Sound Go.Proofs.Tryd.prog G131 := snd103.add ⟨_, Go.Proofs.Tryd.func102, by kernel_rfl, by kernel_rfl⟩ (by
  intro args ins out h hp
  unfold sp131 at h
  split at h
  · rename_i x
    cases h
    exact vcFun_ok (C := C131) good snd103 methOk18 mix Go.Proofs.Tryd.func102 (ann131 x) (fun hw => by rw [← vc131 x]; exact pure131 x)
  · cases h)

theorem snd90b : Sound Go.Proofs.Tryd.prog G90b := snd131.addM ⟨_, Go.Proofs.Tryd.func79, by kernel_rfl, by kernel_rfl⟩ (by
  intro args ins out h hp
  unfold sp90b at h
  split at h
  · rename_i s
    cases h
    exact vcFun_ok (C := C90b) good snd131 methOk18 mix Go.Proofs.Tryd.func79 (ann90b s) (fun hw => by rw [← vc90b s]; exact pure90b s (hw90b hw))
  · cases h)

theorem snd130 : Sound Go.Proofs.Tryd.prog G130 := snd90b.add ⟨_, Go.Proofs.Tryd.func68, by kernel_rfl, by kernel_rfl⟩ (by
  intro args ins out h hp
  unfold sp130 at h
  split at h
  · rename_i s
    cases h
    exact vcFun_ok (C := C130) good snd90b methOk18 mix Go.Proofs.Tryd.func68 (ann130 s) (fun hw => by rw [← vc130 s]; exact pure130 s (hw90b hw))
  · cases h)

theorem snd99 : Sound Go.Proofs.Tryd.prog G99 := snd130.add ⟨_, Go.Proofs.Tryd.func62, by kernel_rfl, by kernel_rfl⟩ (by
  intro args ins out h hp
  unfold sp99 at h
  split at h
  · rename_i s
    cases h
    exact vcFun_ok (C := C99) good snd130 methOk18 mix Go.Proofs.Tryd.func62 (ann99 s) (fun hw => by rw [← vc99 s]; exact pure99 s)
  · cases h)

theorem snd100 : Sound Go.Proofs.Tryd.prog G100 := snd99.add ⟨_, Go.Proofs.Tryd.func103, by kernel_rfl, by kernel_rfl⟩ (by
  intro args ins out h hp
  unfold sp100 at h
  split at h
  · cases h
    exact vcFun_ok (C := C100) good snd99 methOk18 mix Go.Proofs.Tryd.func103 (ann100 ) (fun hw => by rw [← vc100 ]; exact pure100)
  · cases h)

theorem snd59 : Sound Go.Proofs.Tryd.prog G59 := snd100.add ⟨_, Go.Proofs.Tryd.func61, by kernel_rfl, by kernel_rfl⟩ (by
  intro args ins out h hp
  unfold sp59 at h
  split at h
  · rename_i s
    cases h
    exact vcFun_ok (C := C59) good snd100 methOk18 mix Go.Proofs.Tryd.func61 (ann59 s) (fun hw => by rw [← vc59 s]; exact pure59 s)
  · cases h)

theorem snd61 : Sound Go.Proofs.Tryd.prog G61 := snd59.add ⟨_, Go.Proofs.Tryd.func75, by kernel_rfl, by kernel_rfl⟩ (by
  intro args ins out h hp
  unfold sp61 at h
  split at h
  · rename_i k
    cases h
    exact vcFun_ok (C := C61) good snd59 methOk18 mix Go.Proofs.Tryd.func75 (ann61 k) (fun hw => by rw [← vc61 k]; exact pure61 k hp)
  · cases h)

end Go.SL.A

/- Functions and what they are held to do: bound to their code. -/
namespace Go.SL.A
open Go Go.SL Go.SL.S
set_option maxRecDepth 100000
end Go.SL.A

namespace Go.SL.A
open Go Go.SL Go.SL.S

theorem cnt_zero : ∀ n, cnt n 0 = 1
  | 0 => rfl
  | n + 1 => cnt_zero n

end Go.SL.A

/- More plain laws of vectors. -/
namespace Go.SL.A
open Go Go.SL Go.SL.S

theorem cnt_pos : ∀ n k, 1 ≤ cnt (n + 1) k
  | n, 0 => by rw [show cnt (n + 1) 0 = cnt n 0 from rfl, cnt_zero]; omega
  | n, k + 1 => by
    have := cnt_pos n k
    have := (cnt_le n k).1
    have := (cnt_le n (k + 1)).1
    rw [show cnt (n + 1) (k + 1) = cnt (n + 1) k + cnt n k + cnt n (k + 1) from rfl]; omega

end Go.SL.A

/- Give: what is given; plain laws. -/
namespace Go.SL.S
open Go Go.SL

theorem pop_perm {α : Type} (lt : α → α → Bool) (d : α) {l : List α} (h : 0 < l.length) : (l.getD 0 d :: popL lt d l).Perm l := by
  have hs := swapL_perm d (l := l) (i := 0) (j := l.length - 1) h (by omega)
  have hd := downL_perm lt d (l.length - 1) (l.length - 1) (swapL d l 0 (l.length - 1)) 0 (by rw [swapL_len]; omega)
  have hk := downL_keep lt d (l.length - 1) (l.length - 1) (swapL d l 0 (l.length - 1)) 0 (by rw [swapL_len]; omega) (l.length - 1) (Nat.le_refl _)
  rw [swapL_getD d (by omega) (by omega), if_pos rfl] at hk
  have hl := downL_len lt d (l.length - 1) (l.length - 1) (swapL d l 0 (l.length - 1)) 0
  rw [swapL_len] at hl
  unfold popL
  generalize (downL lt d (l.length - 1) (l.length - 1) (swapL d l 0 (l.length - 1)) 0).1 = D at *
  have e : D = D.take (l.length - 1) ++ [l.getD 0 d] := by
    have : D.drop (l.length - 1) = [l.getD 0 d] := by
      rw [List.drop_eq_getElem_cons (by omega), List.drop_eq_nil_of_le (by omega)]
      rw [← hk, List.getD_eq_getElem?_getD, List.getElem?_eq_getElem (by omega)]; rfl
    rw [← this, List.take_append_drop]
  have p1 : (l.getD 0 d :: D.take (l.length - 1)).Perm (D.take (l.length - 1) ++ [l.getD 0 d]) := (List.perm_append_singleton _ _).symm
  rw [← e] at p1
  exact p1.trans (hd.trans hs)

theorem pop_len {α : Type} (lt : α → α → Bool) (d : α) {l : List α} (h : 0 < l.length) : (popL lt d l).length = l.length - 1 := by
  have := (pop_perm lt d h).length_eq
  simp only [List.length_cons] at this; omega

theorem pop_hp {α : Type} {lt : α → α → Bool} (o : Ord lt) (d : α) {l : List α} (h0 : 0 < l.length) (h : Hp lt d l l.length) : Hp lt d (popL lt d l) (popL lt d l).length := by
  rw [pop_len lt d h0]
  have hs := swapL_getD d (l := l) (i := 0) (j := l.length - 1) h0 (by omega)
  have hd := down_hp o d (n := l.length - 1) (l.length - 1) (swapL d l 0 (l.length - 1)) 0 (by omega) (by rw [swapL_len]; omega) (fun k hk0 hk hkp => by
    rw [hs, hs, if_neg (by omega), if_neg (by omega), if_neg (by omega), if_neg (by omega)]
    exact h k hk0 (by omega)) (fun k hk0 hk hkp hp => by omega)
  intro k hk0 hk
  have hg : ∀ j, j < l.length - 1 → (popL lt d l).getD j d = (downL lt d (l.length - 1) (l.length - 1) (swapL d l 0 (l.length - 1)) 0).1.getD j d := by
    intro j hj
    unfold popL
    rw [List.getD_eq_getElem?_getD, List.getD_eq_getElem?_getD, List.getElem?_take, if_pos hj]
  rw [hg k hk, hg _ (by omega)]
  exact hd k hk0 hk

theorem more_vals : (List.range 12).map (fun k : Nat => moreF (k : Int)) = [3, 2, 2, 1, 1, 1, 0, 1, 0, 1, 0, 1] := by decide +kernel

theorem more_nn {k : Int} (h0 : 0 ≤ k) (h : k < 12) : 0 ≤ moreF k ∧ moreF k ≤ 3 := by
  have e : moreF k = ((List.range 12).map (fun k : Nat => moreF (k : Int))).getD k.toNat 0 := by
    rw [List.getD_eq_getElem?_getD, List.getElem?_map, List.getElem?_range (by omega)]
    simp [Int.toNat_of_nonneg h0]
  rw [more_vals] at e
  have : k.toNat = 0 ∨ k.toNat = 1 ∨ k.toNat = 2 ∨ k.toNat = 3 ∨ k.toNat = 4 ∨ k.toNat = 5 ∨ k.toNat = 6 ∨ k.toNat = 7 ∨ k.toNat = 8 ∨ k.toNat = 9 ∨ k.toNat = 10 ∨ k.toNat = 11 := by omega
  rw [e]
  rcases this with h | h | h | h | h | h | h | h | h | h | h | h <;> rw [h] <;> decide

theorem more_bits {k : Int} (h0 : 0 ≤ k) (h : k < 12) : moreF k = bitsF (k + 1) - bitsF k := by
  unfold moreF costF
  simp only [List.getD_eq_getElem?_getD, List.getElem?_map]
  rw [List.getElem?_range (by omega), List.getElem?_range (by omega)]
  simp only [Option.map_some, Option.getD_some]
  rw [Int.toNat_of_nonneg (by omega), Int.toNat_of_nonneg h0]

theorem sumC_set : ∀ (l : List Int) (b : Nat) (v : Int), b < l.length → sumC (l.set b v) = sumC l + bitsF v - bitsF (l.getD b 0)
  | [], b, v, h => by simp at h
  | x :: l, 0, v, _ => by simp [sumC]; omega
  | x :: l, b + 1, v, h => by
    simp only [List.set_cons_succ, sumC, List.getD_cons_succ]
    rw [sumC_set l b v (by simpa using h)]; omega

theorem sumK_set : ∀ (l : List Int) (b : Nat) (v : Int), b < l.length → sumK (l.set b v) = sumK l + v - l.getD b 0
  | [], b, v, h => by simp at h
  | x :: l, 0, v, _ => by simp [sumK]; omega
  | x :: l, b + 1, v, h => by
    simp only [List.set_cons_succ, sumK, List.getD_cons_succ]
    rw [sumK_set l b v (by simpa using h)]; omega

theorem sumK_le : ∀ (l : List Int), (∀ b, b < l.length → l.getD b 0 ≤ 12) → sumK l ≤ 12 * l.length
  | [], _ => by simp [sumK]
  | x :: l, h => by
    have h1 := h 0 (by simp)
    have h2 := sumK_le l (fun b hb => by have := h (b + 1) (by simpa using hb); simpa using this)
    simp only [List.getD_cons_zero] at h1
    simp only [sumK, List.length_cons]; omega

theorem set_at (l : List Int) (b c : Nat) (v : Int) (h : b < l.length) : (l.set b v).getD c 0 = if c = b then v else l.getD c 0 := by
  simp only [List.getD_eq_getElem?_getD, List.getElem?_set]
  by_cases e : b = c
  · subst e; simp [h]
  · rw [if_neg e, if_neg (fun h => e h.symm)]

theorem sumC_z8 : sumC z8 = 0 := by decide +kernel

structure GI (s : List Int) (B : Int) (x : GS) : Prop where
  klen : x.2.1.length = 8
  kr : ∀ b, b < 8 → 0 ≤ x.2.1.getD b 0 ∧ x.2.1.getD b 0 ≤ 12
  b0 : 0 ≤ x.2.2
  sum : x.2.2 + sumC x.2.1 = B
  mem : ∀ w ∈ x.1, ∃ b : Nat, b < 8 ∧ w = ((b : Int), s.getD b 0 - x.2.1.getD b 0)
  nd : (x.1.map (·.1)).Nodup
  hp : Hp ltQ qz x.1 x.1.length
  len : x.1.length ≤ 8
  out : ∀ b : Nat, b < 8 → (∀ w ∈ x.1, w.1 ≠ (b : Int)) → noMore (x.2.1.getD b 0) x.2.2 = true

theorem GI.top {s : List Int} {B : Int} {x : GS} (h : GI s B x) (h0 : 0 < x.1.length) : ∃ b : Nat, b < 8 ∧ x.1.getD 0 qz = ((b : Int), s.getD b 0 - x.2.1.getD b 0) ∧
    (∀ w ∈ x.1, ltQ w (x.1.getD 0 qz) = false) ∧ (∀ w ∈ popL ltQ qz x.1, w ∈ x.1 ∧ w.1 ≠ (b : Int)) ∧ (∀ w ∈ x.1, w.1 ≠ (b : Int) → w ∈ popL ltQ qz x.1) ∧ ((popL ltQ qz x.1).map (·.1)).Nodup := by
  obtain ⟨b, hb, e⟩ := h.mem _ (show x.1.getD 0 qz ∈ x.1 by rw [List.getD_eq_getElem?_getD, List.getElem?_eq_getElem h0]; simp)
  have hp := pop_perm ltQ qz h0
  have hnd : ((x.1.getD 0 qz :: popL ltQ qz x.1).map (·.1)).Nodup := (hp.map _).nodup_iff.2 h.nd
  rw [List.map_cons, List.nodup_cons] at hnd
  refine ⟨b, hb, e, fun w hw => ?_, fun w hw => ⟨hp.subset (List.mem_cons_of_mem _ hw), fun hwb => ?_⟩, fun w hw hwb => ?_, hnd.2⟩
  · obtain ⟨k, hk, rfl⟩ := List.mem_iff_getElem.1 hw
    have := h.hp.first ltQ_ord k hk
    rw [List.getD_eq_getElem?_getD, List.getElem?_eq_getElem hk] at this
    exact this
  · apply hnd.1
    rw [e]
    exact List.mem_map.2 ⟨w, hw, hwb⟩
  · have hw := hp.symm.subset hw
    rcases List.mem_cons.1 hw with hw | hw
    · exfalso; apply hwb; rw [hw, e]
    · exact hw

theorem noMore_less {n a b : Int} (h : noMore n a = true) (hab : b ≤ a) : noMore n b = true := by
  unfold noMore at *
  simp only [Bool.or_eq_true, decide_eq_true_eq] at *
  omega

theorem GI.step {s : List Int} {B : Int} {x : GS} (h : GI s B x) (h0 : 0 < x.1.length) : GI s B (giveStep x) ∧ giveMu (giveStep x) < giveMu x := by
  obtain ⟨b, hb, e, hmin, hpop, hin, hnd⟩ := h.top h0
  have hpl := pop_len ltQ qz h0
  have hkr := h.kr b hb
  have hbl : b < x.2.1.length := by rw [h.klen]; exact hb
  have hsl := sumK_le x.2.1 (fun c hc => (h.kr c (by rw [← h.klen]; exact hc)).2)
  rw [h.klen] at hsl
  unfold giveStep giveMu
  simp only [e, Int.toNat_natCast]
  cases hn : noMore (x.2.1.getD b 0) x.2.2 with
  | true =>
    rw [if_pos rfl]
    refine ⟨⟨h.klen, h.kr, h.b0, h.sum, fun w hw => h.mem w (hpop w hw).1, hnd, pop_hp ltQ_ord qz h0 h.hp, by simp only [hpl]; have := h.len; omega, fun c hc hcw => ?_⟩, by simp only [hpl]; omega⟩
    by_cases ecb : c = b
    · subst ecb; exact hn
    · refine h.out c hc fun w hw hwc => ?_
      exact hcw w (hin w hw (by rw [hwc]; omega)) hwc
  | false =>
    rw [if_neg (by simp)]
    have hn' : x.2.1.getD b 0 < 12 ∧ moreF (x.2.1.getD b 0) ≤ x.2.2 := by
      unfold noMore at hn
      simp only [Bool.or_eq_false_iff, decide_eq_false_iff_not] at hn
      omega
    have hm := more_nn hkr.1 hn'.1
    have hmb := more_bits hkr.1 hn'.1
    have hset := set_at x.2.1 b
    have hpu := pushL_perm ltQ qz (popL ltQ qz x.1) ((b : Int), s.getD b 0 - x.2.1.getD b 0 - 1)
    refine ⟨⟨by simp only [List.length_set]; exact h.klen, fun c hc => ?_, by simp only; omega, ?_, fun w hw => ?_, ?_, ?_, by simp only [pushL_len, hpl]; have := h.len; omega, fun c hc hcw => ?_⟩, ?_⟩
    · simp only [hset c _ hbl]
      split
      · omega
      · exact h.kr c hc
    · simp only [sumC_set _ _ _ hbl]
      have := h.sum; omega
    · rcases List.mem_append.1 (hpu.subset hw) with hw | hw
      · obtain ⟨hw1, hw2⟩ := hpop w hw
        obtain ⟨c, hc, rfl⟩ := h.mem w hw1
        refine ⟨c, hc, ?_⟩
        have : c ≠ b := fun e => hw2 (by rw [e])
        simp only [hset c _ hbl, if_neg this]
      · rw [List.mem_singleton.1 hw]
        refine ⟨b, hb, ?_⟩
        simp only [hset b _ hbl, if_true]
        congr 1; omega
    · refine (hpu.map _).nodup_iff.2 ?_
      rw [List.map_append, List.nodup_append]
      refine ⟨hnd, by simp, fun c hc d hd => ?_⟩
      obtain ⟨w, hw, rfl⟩ := List.mem_map.1 hc
      simp only [List.map_cons, List.map_nil, List.mem_singleton] at hd
      rw [hd]; exact (hpop w hw).2
    · have := push_hp ltQ_ord qz ((b : Int), s.getD b 0 - x.2.1.getD b 0 - 1) (pop_hp ltQ_ord qz h0 h.hp)
      simp only [pushL_len]; exact this
    · have ecb : c ≠ b := fun e => hcw _ (hpu.symm.subset (List.mem_append_right _ (List.mem_singleton_self _))) (by rw [e])
      simp only [hset c _ hbl, if_neg ecb]
      refine noMore_less (h.out c hc fun w hw hwc => ?_) (show x.2.2 - moreF (x.2.1.getD b 0) ≤ x.2.2 by omega)
      exact hcw w (hpu.symm.subset (List.mem_append_left _ (hin w hw (by rw [hwc]; omega)))) hwc
    · simp only [pushL_len, hpl, sumK_set _ _ _ hbl]
      have e9 : sumK x.2.1 + (x.2.1.getD b 0 + 1) - x.2.1.getD b 0 = sumK x.2.1 + 1 := by omega
      rw [e9]
      have key : ∀ (m : Nat) (q : Int), 0 < m → q + 1 ≤ 96 → m - 1 + 1 + 2 * (96 - (q + 1)).toNat < m + 2 * (96 - q).toNat := by intro m q h1 h2; omega
      refine key _ _ h0 ?_
      have hs2 := sumK_le (x.2.1.set b (x.2.1.getD b 0 + 1)) (fun c hc => by
        rw [hset c _ hbl]
        split
        · omega
        · exact (h.kr c (by rw [List.length_set, h.klen] at hc; exact hc)).2)
      rw [List.length_set, h.klen, sumK_set _ _ _ hbl] at hs2
      omega

theorem giveRun_nil (f : Nat) (x : GS) (h : x.1 = []) : giveRun f x = x := by
  cases f with
  | zero => rfl
  | succ f => rw [giveRun, h]

theorem giveRun_step {f : Nat} {x : GS} (h : 0 < x.1.length) : giveRun (f + 1) x = giveRun f (giveStep x) := by
  rw [giveRun]
  cases hx : x.1 with
  | nil => rw [hx] at h; simp at h
  | cons a l => rfl

theorem giveRun_fuel {s : List Int} {B : Int} : ∀ (f : Nat) (x : GS), GI s B x → giveMu x ≤ f → giveRun f x = giveRun (giveMu x) x ∧ GI s B (giveRun f x) ∧ (giveRun f x).1 = [] := by
  intro f
  induction f using Nat.strongRecOn with
  | ind f ih =>
    intro x h hf
    by_cases h0 : 0 < x.1.length
    · obtain ⟨h1, h2⟩ := h.step h0
      obtain ⟨f, rfl⟩ : ∃ g, f = g + 1 := ⟨f - 1, by omega⟩
      obtain ⟨m, hm⟩ : ∃ m, giveMu x = m + 1 := ⟨giveMu x - 1, by omega⟩
      rw [giveRun_step h0, hm, giveRun_step h0]
      obtain ⟨i1, i2, i3⟩ := ih f (by omega) _ h1 (by omega)
      refine ⟨?_, i2, i3⟩
      by_cases hmf : m = f
      · rw [hmf]
      · rw [i1, (ih m (by omega) _ h1 (by omega)).1]
    · have hx : x.1 = [] := List.eq_nil_of_length_eq_zero (by omega)
      rw [giveRun_nil f x hx, giveRun_nil _ x hx]
      exact ⟨rfl, h, hx⟩

theorem pushQ_len (s : List Int) : ∀ k, (pushQ s k).length = k
  | 0 => rfl
  | k + 1 => by rw [pushQ, pushL_len, pushQ_len s k]

theorem pushQ_mem (s : List Int) : ∀ k w, w ∈ pushQ s k ↔ ∃ b : Nat, b < k ∧ w = ((b : Int), s.getD b 0)
  | 0, w => by simp [pushQ]
  | k + 1, w => by
    rw [pushQ, (pushL_perm ltQ qz _ _).mem_iff, List.mem_append, pushQ_mem s k w, List.mem_singleton]
    constructor
    · rintro (⟨b, hb, e⟩ | e)
      · exact ⟨b, by omega, e⟩
      · exact ⟨k, by omega, e⟩
    · rintro ⟨b, hb, e⟩
      by_cases h : b = k
      · subst h; exact .inr e
      · exact .inl ⟨b, by omega, e⟩

theorem pushQ_nd (s : List Int) : ∀ k, ((pushQ s k).map (·.1)).Nodup
  | 0 => by simp [pushQ]
  | k + 1 => by
    rw [pushQ]
    refine ((pushL_perm ltQ qz _ _).map _).nodup_iff.2 ?_
    rw [List.map_append, List.nodup_append]
    refine ⟨pushQ_nd s k, by simp, fun c hc d hd => ?_⟩
    obtain ⟨w, hw, rfl⟩ := List.mem_map.1 hc
    obtain ⟨b, hb, rfl⟩ := (pushQ_mem s k w).1 hw
    simp only [List.map_cons, List.map_nil, List.mem_singleton] at hd
    rw [hd]; simp only; omega

theorem pushQ_hp (s : List Int) : ∀ k, Hp ltQ qz (pushQ s k) k
  | 0 => fun j _ h => by omega
  | k + 1 => by
    have := push_hp ltQ_ord qz ((k : Int), s.getD k 0) (l := pushQ s k) (by rw [pushQ_len]; exact pushQ_hp s k)
    rw [pushQ_len] at this
    exact this

theorem z8_at (b : Nat) : z8.getD b 0 = 0 := by
  match b with
  | 0 | 1 | 2 | 3 | 4 | 5 | 6 | 7 => rfl
  | b + 8 => rw [List.getD_eq_getElem?_getD, List.getElem?_eq_none (by simp [z8])]; rfl

theorem GI.init (s : List Int) {B : Int} (hB : 0 ≤ B) : GI s B (pushQ s 8, z8, B) where
  klen := rfl
  kr := fun b _ => by simp only [z8_at]; omega
  b0 := hB
  sum := by simp only [sumC_z8]; omega
  mem := fun w hw => by
    obtain ⟨b, hb, e⟩ := (pushQ_mem s 8 w).1 hw
    exact ⟨b, hb, by rw [e]; simp only [z8_at]; congr 1; omega⟩
  nd := pushQ_nd s 8
  hp := by simp only [pushQ_len]; exact pushQ_hp s 8
  len := by simp only [pushQ_len]; omega
  out := fun b hb h => absurd rfl (h _ ((pushQ_mem s 8 _).2 ⟨b, hb, rfl⟩))

theorem giveMu_init (s : List Int) (B : Int) : giveMu (pushQ s 8, z8, B) = 200 := by
  unfold giveMu
  simp only [pushQ_len]
  decide

/-- What is given at the end. -/
theorem give_end (s : List Int) {B : Int} (hB : 0 ≤ B) : ∃ left : Int, 0 ≤ left ∧ (giveF s B).length = 8 ∧ left + sumC (giveF s B) = B ∧ ∀ b, b < 8 → (0 ≤ (giveF s B).getD b 0 ∧ (giveF s B).getD b 0 ≤ 12) ∧ noMore ((giveF s B).getD b 0) left = true := by
  obtain ⟨-, h, hn⟩ := giveRun_fuel 200 _ (GI.init s hB) (by rw [giveMu_init]; omega)
  refine ⟨(giveRun 200 (pushQ s 8, z8, B)).2.2, h.b0, h.klen, h.sum, fun b hb => ⟨h.kr b hb, h.out b hb fun w hw => ?_⟩⟩
  rw [hn] at hw; cases hw

/-! ### As the document has it -/

structure RI (B : Int) (x : List Int × Int) : Prop where
  klen : x.1.length = 8
  kr : ∀ b, b < 8 → 0 ≤ x.1.getD b 0 ∧ x.1.getD b 0 ≤ 12
  b0 : 0 ≤ x.2
  b1 : x.2 ≤ B

def feas (k : List Int) (bits : Int) (b : Nat) : Prop := k.getD b 0 < 12 ∧ moreF (k.getD b 0) ≤ bits

theorem feas_iff {k : List Int} {bits : Int} {b : Nat} : feas k bits b ↔ noMore (k.getD b 0) bits = false := by
  unfold feas noMore
  simp only [Bool.or_eq_false_iff, decide_eq_false_iff_not]; omega

theorem best_cases (s k : List Int) (bits : Int) : ∀ n, (bestTo s k bits n = -1 ∧ ∀ b, b < n → ¬ feas k bits b) ∨ ∃ c : Nat, c < n ∧ bestTo s k bits n = (c : Int) ∧ feas k bits c
  | 0 => .inl ⟨rfl, fun b h => by omega⟩
  | n + 1 => by
    rw [bestTo]
    split
    · rename_i h
      exact .inr ⟨n, by omega, rfl, h.1, h.2.1⟩
    · rename_i h
      rcases best_cases s k bits n with ⟨h1, h2⟩ | ⟨c, h1, h2, h3⟩
      · refine .inl ⟨h1, fun b hb hf => ?_⟩
        by_cases hbn : b = n
        · subst hbn; exact h ⟨hf.1, hf.2, .inl (by omega)⟩
        · exact h2 b (by omega) hf
      · exact .inr ⟨c, by omega, h2, h3⟩

theorem best_is (s k : List Int) (bits : Int) {b : Nat} (hf : feas k bits b) : ∀ n, b < n → (∀ c, c < n → feas k bits c → s.getD c 0 - k.getD c 0 ≤ s.getD b 0 - k.getD b 0 ∧ (c < b → s.getD c 0 - k.getD c 0 < s.getD b 0 - k.getD b 0)) → bestTo s k bits n = (b : Int)
  | 0, h, _ => by omega
  | n + 1, h, hm => by
    rw [bestTo]
    by_cases e : b = n
    · subst e
      rw [if_pos]
      refine ⟨hf.1, hf.2, ?_⟩
      rcases best_cases s k bits b with ⟨h1, _⟩ | ⟨c, h1, h2, h3⟩
      · left; omega
      · right
        rw [h2, Int.toNat_natCast]
        exact (hm c (by omega) h3).2 h1
    · have ih := best_is s k bits hf n (by omega) (fun c hc => hm c (by omega))
      rw [ih, if_neg]
      rintro ⟨h1, h2, h3 | h3⟩
      · omega
      · have := (hm n (by omega) ⟨h1, h2⟩).1
        rw [Int.toNat_natCast] at h3; omega

theorem refRun_stop {s : List Int} {f : Nat} {x : List Int × Int} (h : bestTo s x.1 x.2 8 < 0) : refRun s f x = x.1 := by
  cases f with
  | zero => rfl
  | succ f => rw [refRun, if_pos h]

theorem give_ref {s : List Int} {B : Int} : ∀ (g : Nat) (x : GS) (f : Nat), GI s B x → giveMu x ≤ g → 96 - sumK x.2.1 < f → refRun s f x.2 = (giveRun g x).2.1 := by
  intro g
  induction g with
  | zero =>
    intro x f h hg hf
    have hx : x.1 = [] := List.eq_nil_of_length_eq_zero (by unfold giveMu at hg; omega)
    refine refRun_stop ?_
    rcases best_cases s x.2.1 x.2.2 8 with ⟨h1, _⟩ | ⟨c, h1, _, h3⟩
    · omega
    · have := h.out c h1 (fun w hw => by rw [hx] at hw; cases hw)
      rw [feas_iff.1 h3] at this; cases this
  | succ g ih =>
    intro x f h hg hf
    by_cases h0 : 0 < x.1.length
    · obtain ⟨h1, h2⟩ := h.step h0
      obtain ⟨b, hb, e, hmin, -⟩ := h.top h0
      have hsl := sumK_le x.2.1 (fun c hc => (h.kr c (by rw [← h.klen]; exact hc)).2)
      rw [h.klen] at hsl
      rw [giveRun_step h0]
      cases hn : noMore (x.2.1.getD b 0) x.2.2 with
      | true =>
        have e2 : giveStep x = (popL ltQ qz x.1, x.2.1, x.2.2) := by
          unfold giveStep; simp only [e, Int.toNat_natCast, hn, if_true]
        have := ih (giveStep x) f h1 (by omega) (by rw [e2]; exact hf)
        rw [← this, e2]
      | false =>
        have e2 : giveStep x = (pushL ltQ qz (popL ltQ qz x.1) ((b : Int), s.getD b 0 - x.2.1.getD b 0 - 1), x.2.1.set b (x.2.1.getD b 0 + 1), x.2.2 - moreF (x.2.1.getD b 0)) := by
          unfold giveStep; simp only [e, Int.toNat_natCast, hn]; rfl
        have hbest : bestTo s x.2.1 x.2.2 8 = (b : Int) := by
          refine best_is s x.2.1 x.2.2 (feas_iff.2 hn) 8 hb fun c hc hcf => ?_
          have hin : ∃ w ∈ x.1, w.1 = (c : Int) := by
            refine Classical.byContradiction fun hno => ?_
            have := h.out c hc (fun w hw hwc => hno ⟨w, hw, hwc⟩)
            rw [feas_iff.1 hcf] at this; cases this
          obtain ⟨w, hw, hwc⟩ := hin
          obtain ⟨d, hd, rfl⟩ := h.mem w hw
          simp only at hwc
          have : d = c := by omega
          subst this
          have := hmin _ hw
          rw [e] at this
          simp only [ltQ, Bool.or_eq_false_iff, Bool.and_eq_false_iff, decide_eq_false_iff_not] at this
          omega
        obtain ⟨f, rfl⟩ : ∃ f', f = f' + 1 := ⟨f - 1, by omega⟩
        rw [refRun, hbest, if_neg (by omega)]
        simp only [Int.toNat_natCast]
        have := ih (giveStep x) f h1 (by omega) (by
          rw [e2]; simp only [sumK_set _ _ _ (show b < x.2.1.length by rw [h.klen]; exact hb)]; omega)
        rw [← this, e2]
    · have hx : x.1 = [] := List.eq_nil_of_length_eq_zero (by omega)
      rw [giveRun_nil _ x hx]
      refine refRun_stop ?_
      rcases best_cases s x.2.1 x.2.2 8 with ⟨h1, _⟩ | ⟨c, h1, _, h3⟩
      · omega
      · have := h.out c h1 (fun w hw => by rw [hx] at hw; cases hw)
        rw [feas_iff.1 h3] at this; cases this

theorem give_eq (s : List Int) {B : Int} (hB : 0 ≤ B) : giveF s B = refF s B :=
  (give_ref 200 _ 100 (GI.init s hB) (by rw [giveMu_init]; omega) (by show 96 - sumK z8 < ((100 : Nat) : Int); decide)).symm

end Go.SL.S

/- Functions and what they are held to do: bound to their code. -/
namespace Go.SL.A
open Go Go.SL Go.SL.S
set_option maxRecDepth 100000
noncomputable def C57 : Ctx := ⟨Go.Proofs.Tryd.prog, D, G61, meth18, fun _ => []⟩
def ann57 (s : List Int) (bits : Int) : Nat → St → Option Ann := fun id _ => match id with | 0 => some ⟨Nat, [1, 4, 5, 6, 7, 8, 28], [1, 2, 3], fun i => [(29, .v (.int .i64) (i : Int))], fun i => [(4, some ⟨false, true, (.cons (.ref .slice) (.last (.ref .func))), [(.slice 5 (.cons (.int .i64) (.last (.int .i64))) [] 0 i, .func (.func 104) [] [])]⟩), (5, some ⟨false, false, (.cons (.int .i64) (.last (.int .i64))), pushQ s i⟩)], fun i => i ≤ 8, fun i => 8 - i⟩ | _ => some ⟨GS, [4, 5, 6, 7, 8], [1, 3], fun x => [(1, .v (.int .i64) x.2.2)], fun x => [(2, some ⟨false, true, .arr 8 (.int .i64), [x.2.1]⟩), (4, some ⟨false, true, (.cons (.ref .slice) (.last (.ref .func))), [(.slice 6 (.cons (.int .i64) (.last (.int .i64))) [] 0 x.1.length, .func (.func 104) [] [])]⟩), (6, some ⟨false, false, (.cons (.int .i64) (.last (.int .i64))), x.1⟩)], fun x => GI s bits x ∧ giveRun (giveMu x) x = giveRun 200 (pushQ s 8, z8, bits), fun x => giveMu x⟩
def out57 (s : List Int) (bits : Int) : COut := ⟨[], .tup [⟨.arr 8 (.int .i64), giveV s bits⟩, ⟨.int .i64, giveE s bits⟩], [], []⟩
def sp57 : Spec := fun args ins => match args, ins with
  | [⟨.arr 8 (.int .i64), s⟩, ⟨.int .i64, bits⟩], [] => some (out57 s bits)
  | _, _ => none
def G57 := addG G61 63 sp57
def P57 (s : List Int) (bits : Int) : Prop :=
 ∀ (b:Bool),(!rightF s)=b→∀ (b_1:Bool),(bif b then true else decide (bits<0))=b_1→(((!b)=true→(!b)=true)∧(b=false→(!b)=true)∧((!b_1)=true→(!b_1)=true)∧(b_1=false→(!b_1)=true))∧bif bif b_1 then true else decide (1048576<bits) then (0:Int)
 :: List.replicate (nat_lit 7) (0:Int)=giveV s bits∧1=giveE s bits else ∃ (x:Nat),((bits=bits∧0=0∧(0:Int)=0∧0=0∧0=0∧0=0∧s=s∧0=(x:Int)∧(0:Int) :: List.replicate (nat_lit 7) (0:Int)=List.replicate 8 (0:Int)∧false=false∧(0:Int) :: List.replicate
 (nat_lit 7) (0:Int)=List.replicate 8 (0:Int)∧false=false∧costF=costF∧false=false∧x=0∧false=false∧pushQ s x=[])∧x≤8)∧∀ (x:Nat),x≤8→(IntKind.min .i64≤(x:Int)∧(x:Int)≤IntKind.max .i64∧(∀ (y:Ref × Ref),List.Mem y [(Ref.slice (5:Nat) (Ty.cons
 (Ty.int .i64) (Ty.last (Ty.int .i64))) [] (0:Nat) x,Ref.func (Fn.func (104:Nat)) [] [])]→True)∧∀ (y:Int × Int),List.Mem y (pushQ s x)→IntKind.min .i64≤y.1∧y.1≤IntKind.max .i64∧IntKind.min .i64≤y.2∧y.2≤IntKind.max .i64)→bif decide ((x:Int)<8)
 then (0≤(x:Int)∧(x:Int)<(↑ (8:Nat):Int))∧(x=List.length (pushQ s x)∧x≤1000)∧∃ (y:Nat),(bits=bits∧0=0∧(0:Int)=0∧0=0∧0=0∧0=0∧s=s∧IntKind.wrap .i64 ((x:Int)+1)=(y:Int)∧(0:Int) :: List.replicate (nat_lit 7) (0:Int)=List.replicate 8 (0:Int)∧false=false∧(0:Int)
 :: List.replicate (nat_lit 7) (0:Int)=List.replicate 8 (0:Int)∧false=false∧costF=costF∧false=false∧0=0∧x+1=y∧false=false∧pushL ltQ qz (pushQ s x) ((x:Int),List.getD s (x:Int).toNat (0:Int))=pushQ s y∧false=false)∧y≤8∧8 - y<8 - x else
 ∃ (x_1:List (Int × Int) × List Int × Int),((bits=x_1.2.2∧0=0∧(0:Int)=0∧0=0∧0=0∧0=0∧(0:Int) :: List.replicate (nat_lit 7) (0:Int)=List.replicate 8 (0:Int)∧false=false∧(0:Int) :: List.replicate (nat_lit 7) (0:Int)=x_1.2.1∧false=false∧costF=costF∧false=false∧0=0∧x=List.length
 x_1.1∧false=false∧pushQ s x=x_1.1∧false=false)∧GI s bits x_1∧giveRun (giveMu x_1) x_1=giveRun (200:Nat) (pushQ s (8:Nat),z8,bits))∧∀ (x:List (Int × Int) × List Int × Int),GI s bits x∧giveRun (giveMu x) x=giveRun (200:Nat) (pushQ s (8:Nat),z8,bits)→(IntKind.min
 .i64≤x.2.2∧x.2.2≤IntKind.max .i64∧(∀ (y:List Int),List.Mem y [x.2.1]→List.length y=8∧∀ (y_1:Int),List.Mem y_1 y→IntKind.min .i64≤y_1∧y_1≤IntKind.max .i64)∧(∀ (y:Ref × Ref),List.Mem y [(Ref.slice (6:Nat) (Ty.cons (Ty.int .i64) (Ty.last
 (Ty.int .i64))) [] (0:Nat) (List.length x.1),Ref.func (Fn.func (104:Nat)) [] [])]→True)∧∀ (y:Int × Int),List.Mem y x.1→IntKind.min .i64≤y.1∧y.1≤IntKind.max .i64∧IntKind.min .i64≤y.2∧y.2≤IntKind.max .i64)→bif decide (0<(↑ (List.length
 x.1):Int)) then (List.length x.1=List.length x.1∧0<List.length x.1∧List.length x.1≤1000)∧((0≤(List.getD x.1 (0:Nat) qz).1∧(List.getD x.1 (0:Nat) qz).1<(↑ (8:Nat):Int))∧(List.getD x.1 (0:Nat) qz).1.toNat<8)∧∀ (b:Bool),decide (12≤List.getD
 x.2.1 (List.getD x.1 (0:Nat) qz).1.toNat (0:Int))=b→(((!b)=true→(!b)=true)∧((!b)=true→(!b)=true∧0≤IntKind.wrap .i64 (List.getD x.2.1 (List.getD x.1 (0:Nat) qz).1.toNat (0:Int)+1)∧IntKind.wrap .i64 (List.getD x.2.1 (List.getD x.1 (0:Nat)
 qz).1.toNat (0:Int)+1)<(↑ (13:Nat):Int))∧((!b)=true→(!b)=true∧(IntKind.wrap .i64 (List.getD x.2.1 (List.getD x.1 (0:Nat) qz).1.toNat (0:Int)+1)).toNat<13)∧((!b)=true→(!b)=true∧0≤List.getD x.2.1 (List.getD x.1 (0:Nat) qz).1.toNat (0:Int)∧List.getD
 x.2.1 (List.getD x.1 (0:Nat) qz).1.toNat (0:Int)<(↑ (13:Nat):Int))∧((!b)=true→(!b)=true∧(List.getD x.2.1 (List.getD x.1 (0:Nat) qz).1.toNat (0:Int)).toNat<13)∧((!b)=true→(!b)=true∧(!b)=true)∧((!b)=true→(!b)=true∧(!b)=true)∧(b=false→(!b)=true))∧bif
 bif b then true else decide (x.2.2<IntKind.wrap .i64 (List.getD costF (IntKind.wrap .i64 (List.getD x.2.1 (List.getD x.1 (0:Nat) qz).1.toNat (0:Int)+1)).toNat (0:Int) - List.getD costF (List.getD x.2.1 (List.getD x.1 (0:Nat) qz).1.toNat
 (0:Int)).toNat (0:Int))) then ∃ (y:List (Int × Int) × List Int × Int),(x.2.2=y.2.2∧0=0∧(0:Int)=0∧0=0∧0=0∧0=0∧(0:Int) :: List.replicate (nat_lit 7) (0:Int)=List.replicate 8 (0:Int)∧false=false∧x.2.1=y.2.1∧false=false∧costF=costF∧false=false∧0=0∧List.length
 x.1 - 1=List.length y.1∧false=false∧popL ltQ qz x.1=y.1∧false=false)∧(GI s bits y∧giveRun (giveMu y) y=giveRun (200:Nat) (pushQ s (8:Nat),z8,bits))∧giveMu y<giveMu x else ((0≤IntKind.wrap .i64 (List.getD x.2.1 (List.getD x.1 (0:Nat)
 qz).1.toNat (0:Int)+1)∧IntKind.wrap .i64 (List.getD x.2.1 (List.getD x.1 (0:Nat) qz).1.toNat (0:Int)+1)<(↑ (13:Nat):Int))∧(IntKind.wrap .i64 (List.getD x.2.1 (List.getD x.1 (0:Nat) qz).1.toNat (0:Int)+1)).toNat<13∧(0≤List.getD x.2.1
 (List.getD x.1 (0:Nat) qz).1.toNat (0:Int)∧List.getD x.2.1 (List.getD x.1 (0:Nat) qz).1.toNat (0:Int)<(↑ (13:Nat):Int))∧(List.getD x.2.1 (List.getD x.1 (0:Nat) qz).1.toNat (0:Int)).toNat<13)∧((0≤(List.getD x.1 (0:Nat) qz).1∧(List.getD
 x.1 (0:Nat) qz).1<(↑ (8:Nat):Int))∧(List.getD x.1 (0:Nat) qz).1.toNat<8∧(0≤(List.getD x.1 (0:Nat) qz).1∧(List.getD x.1 (0:Nat) qz).1<(↑ (8:Nat):Int))∧(List.getD x.1 (0:Nat) qz).1.toNat<8)∧(List.length x.1 - 1=List.length (popL ltQ qz
 x.1)∧List.length x.1 - 1≤1000)∧∃ (y:List (Int × Int) × List Int × Int),(IntKind.wrap .i64 (x.2.2 - IntKind.wrap .i64 (List.getD costF (IntKind.wrap .i64 (List.getD x.2.1 (List.getD x.1 (0:Nat) qz).1.toNat (0:Int)+1)).toNat (0:Int) -
 List.getD costF (List.getD x.2.1 (List.getD x.1 (0:Nat) qz).1.toNat (0:Int)).toNat (0:Int)))=y.2.2∧0=0∧(0:Int)=0∧0=0∧0=0∧0=0∧(0:Int) :: List.replicate (nat_lit 7) (0:Int)=List.replicate 8 (0:Int)∧false=false∧List.set x.2.1 (List.getD
 x.1 (0:Nat) qz).1.toNat (IntKind.wrap .i64 (List.getD x.2.1 (List.getD x.1 (0:Nat) qz).1.toNat (0:Int)+1))=y.2.1∧false=false∧costF=costF∧false=false∧0=0∧List.length x.1 - 1+1=List.length y.1∧false=false∧pushL ltQ qz (popL ltQ qz x.1)
 ((List.getD x.1 (0:Nat) qz).1,IntKind.wrap .i64 ((List.getD x.1 (0:Nat) qz).2 - 1))=y.1∧false=false)∧(GI s bits y∧giveRun (giveMu y) y=giveRun (200:Nat) (pushQ s (8:Nat),z8,bits))∧giveMu y<giveMu x else x.2.1=giveV s bits∧0=giveE s
 bits
theorem vc57 (s : List Int) (bits : Int) : P57 s bits = vcFun C57 (ann57 s bits) Go.Proofs.Tryd.f63 [⟨.arr 8 (.int .i64), s⟩, ⟨.int .i64, bits⟩] [] (out57 s bits) := by kernel_rfl

noncomputable def C62 : Ctx := ⟨Go.Proofs.Tryd.prog, D, G57, meth18, fun _ => []⟩
def ann62 (s : List Int) (bits : Int) : Nat → St → Option Ann := fun id S => match id with | 0 => some ⟨Nat, [1, 2, 4, 5], [0, 1], fun i => [(6, .v (.int .i64) (i : Int))], fun i => [(2, some ⟨false, true, .arr 13 (.int .i64), [costF.take i ++ (List.replicate 13 0).drop i]⟩)], fun i => i ≤ 13, fun i => 13 - i⟩ | 2 => some ⟨Nat × List Int × Int, [2, 4, 5, 7], [0, 1, 2], fun x => [(1, .v (.int .i64) x.2.2)], fun x => [(3, some ⟨false, true, .arr 8 (.int .i64), [x.2.1]⟩)], fun x => RI bits x.2 ∧ x.1 ≤ 100 ∧ 96 - sumK x.2.1 < x.1 ∧ refRun s x.1 x.2 = refF s bits, fun x => x.1⟩ | _ => some ⟨Nat, [1, 2, 4, 5, 7], [0, 1, 2, 3], fun b => [(9, .v (.int .i64) (b : Int)), (8, .v (.int .i64) (bestTo s (S.x 3 (.arr 8 (.int .i64))) (S.i 1) b))], fun _ => [], fun b => b ≤ 8, fun b => 8 - b⟩
def out62 (s : List Int) (bits : Int) : COut := ⟨[rightF s = true, 0 ≤ bits ∧ bits ≤ 1048576], .v (.arr 8 (.int .i64)) (refF s bits), [], []⟩
def sp62 : Spec := fun args ins => match args, ins with
  | [⟨.arr 8 (.int .i64), s⟩, ⟨.int .i64, bits⟩], [] => some (out62 s bits)
  | _, _ => none
def G62 := addG G57 38 sp62
def P62 (s : List Int) (bits : Int) : Prop :=
 ∃ (x:Nat),((bits=bits∧0=0∧0=0∧0=0∧0=(x:Int)∧s=s∧false=false∧(0:Int) :: List.replicate (nat_lit 7) (0:Int)=List.replicate 8 (0:Int)∧false=false∧(0:Int) :: List.replicate (nat_lit 12) (0:Int)=List.take x costF ++ List.drop x (List.replicate
 13 (0:Int))∧false=false)∧x≤13)∧∀ (x:Nat),x≤13→(IntKind.min .i64≤(x:Int)∧(x:Int)≤IntKind.max .i64∧∀ (y:List Int),List.Mem y [List.take x costF ++ List.drop x (List.replicate 13 (0:Int))]→List.length y=13∧∀ (y_1:Int),List.Mem y_1 y→IntKind.min
 .i64≤y_1∧y_1≤IntKind.max .i64)→bif decide ((x:Int)<13) then ((0≤(x:Int)∧(x:Int)≤12)∧(0≤(x:Int)∧(x:Int)<(↑ (13:Nat):Int))∧(x:Int).toNat<13)∧∃ (y:Nat),(bits=bits∧0=0∧0=0∧0=0∧IntKind.wrap .i64 ((x:Int)+1)=(y:Int)∧s=s∧false=false∧(0:Int)
 :: List.replicate (nat_lit 7) (0:Int)=List.replicate 8 (0:Int)∧false=false∧List.set (List.take x costF ++ List.drop x (List.replicate 13 (0:Int))) (x:Int).toNat (bitsF (x:Int))=List.take y costF ++ List.drop y (List.replicate 13 (0:Int))∧false=false)∧y≤13∧13
 - y<13 - x else ∃ (x_1:Nat × List Int × Int),((bits=x_1.2.2∧0=0∧0=0∧0=0∧0=0∧s=s∧false=false∧(0:Int) :: List.replicate (nat_lit 7) (0:Int)=List.replicate 8 (0:Int)∧false=false∧List.append (List.take x costF) (List.drop x (List.replicate
 13 (0:Int)))=List.take x costF ++ List.drop x (List.replicate 13 (0:Int))∧false=false∧(0:Int) :: List.replicate (nat_lit 7) (0:Int)=x_1.2.1∧false=false)∧RI bits x_1.2∧x_1.1≤100∧96 - sumK x_1.2.1<(↑ x_1.1:Int)∧refRun s x_1.1 x_1.2=refF
 s bits)∧∀ (x_2:Nat × List Int × Int),RI bits x_2.2∧x_2.1≤100∧96 - sumK x_2.2.1<(↑ x_2.1:Int)∧refRun s x_2.1 x_2.2=refF s bits→(IntKind.min .i64≤x_2.2.2∧x_2.2.2≤IntKind.max .i64∧∀ (y:List Int),List.Mem y [x_2.2.1]→List.length y=8∧∀ (y_1:Int),List.Mem
 y_1 y→IntKind.min .i64≤y_1∧y_1≤IntKind.max .i64)→∃ (x_3:Nat),((x_2.2.2=x_2.2.2∧0=0∧0=0∧0=0∧0=0∧(-1:Int)=bestTo s x_2.2.1 x_2.2.2 x_3∧0=(x_3:Int)∧s=s∧false=false∧(0:Int) :: List.replicate (nat_lit 7) (0:Int)=List.replicate 8 (0:Int)∧false=false∧List.append
 (List.take x costF) (List.drop x (List.replicate 13 (0:Int)))=List.take x costF ++ List.drop x (List.replicate 13 (0:Int))∧false=false∧x_2.2.1=x_2.2.1∧false=false)∧x_3≤8)∧∀ (x_4:Nat),x_4≤8→IntKind.min .i64≤(x_4:Int)∧(x_4:Int)≤IntKind.max
 .i64∧IntKind.min .i64≤bestTo s x_2.2.1 x_2.2.2 x_4∧bestTo s x_2.2.1 x_2.2.2 x_4≤IntKind.max .i64→bif decide ((x_4:Int)<8) then ∀ (b:Bool),decide (List.getD x_2.2.1 (x_4:Int).toNat (0:Int)<12)=b→∀ (b_1:Bool),(bif b then decide (IntKind.wrap
 .i64 (List.getD (List.take x costF ++ List.drop x (List.replicate 13 (0:Int))) (IntKind.wrap .i64 (List.getD x_2.2.1 (x_4:Int).toNat (0:Int)+1)).toNat (0:Int) - List.getD (List.take x costF ++ List.drop x (List.replicate 13 (0:Int)))
 (List.getD x_2.2.1 (x_4:Int).toNat (0:Int)).toNat (0:Int))≤x_2.2.2) else false)=b_1→∀ (b_2:Bool),decide (bestTo s x_2.2.1 x_2.2.2 x_4<0)=b_2→((0≤(x_4:Int)∧(x_4:Int)<(↑ (8:Nat):Int))∧(x_4:Int).toNat<8∧(b=true→b=true∧0≤(x_4:Int)∧(x_4:Int)<(↑
 (8:Nat):Int))∧(b=true→b=true∧(x_4:Int).toNat<8)∧(b=true→b=true)∧(b=true→b=true∧0≤IntKind.wrap .i64 (List.getD x_2.2.1 (x_4:Int).toNat (0:Int)+1)∧IntKind.wrap .i64 (List.getD x_2.2.1 (x_4:Int).toNat (0:Int)+1)<(↑ (13:Nat):Int))∧(b=true→b=true∧(IntKind.wrap
 .i64 (List.getD x_2.2.1 (x_4:Int).toNat (0:Int)+1)).toNat<13)∧(b=true→b=true∧0≤(x_4:Int)∧(x_4:Int)<(↑ (8:Nat):Int))∧(b=true→b=true∧(x_4:Int).toNat<8)∧(b=true→b=true∧0≤List.getD x_2.2.1 (x_4:Int).toNat (0:Int)∧List.getD x_2.2.1 (x_4:Int).toNat
 (0:Int)<(↑ (13:Nat):Int))∧(b=true→b=true∧(List.getD x_2.2.1 (x_4:Int).toNat (0:Int)).toNat<13)∧(b=true→b=true∧b=true)∧(b=true→b=true∧b=true)∧(b=true→b=true)∧(b_1=true→b_1=true)∧((b_1 && b_1 && !b_2)=true→(b_1 && b_1 && !b_2)=true∧0≤(x_4:Int)∧(x_4:Int)<(↑
 (8:Nat):Int))∧((b_1 && b_1 && !b_2)=true→(b_1 && b_1 && !b_2)=true∧(x_4:Int).toNat<8)∧((b_1 && b_1 && !b_2)=true→(b_1 && b_1 && !b_2)=true∧0≤(x_4:Int)∧(x_4:Int)<(↑ (8:Nat):Int))∧((b_1 && b_1 && !b_2)=true→(b_1 && b_1 && !b_2)=true∧(x_4:Int).toNat<8)∧((b_1
 && b_1 && !b_2)=true→(b_1 && b_1 && !b_2)=true∧(b_1 && b_1 && !b_2)=true)∧((b_1 && b_1 && !b_2)=true→(b_1 && b_1 && !b_2)=true∧0≤bestTo s x_2.2.1 x_2.2.2 x_4∧bestTo s x_2.2.1 x_2.2.2 x_4<(↑ (8:Nat):Int))∧((b_1 && b_1 && !b_2)=true→(b_1
 && b_1 && !b_2)=true∧(bestTo s x_2.2.1 x_2.2.2 x_4).toNat<8)∧((b_1 && b_1 && !b_2)=true→(b_1 && b_1 && !b_2)=true∧0≤bestTo s x_2.2.1 x_2.2.2 x_4∧bestTo s x_2.2.1 x_2.2.2 x_4<(↑ (8:Nat):Int))∧((b_1 && b_1 && !b_2)=true→(b_1 && b_1 &&
 !b_2)=true∧(bestTo s x_2.2.1 x_2.2.2 x_4).toNat<8)∧((b_1 && b_1 && !b_2)=true→(b_1 && b_1 && !b_2)=true∧(b_1 && b_1 && !b_2)=true)∧((b_1 && b_1 && !b_2)=true→(b_1 && b_1 && !b_2)=true∧(b_1 && b_1 && !b_2)=true)∧(b_1=true→(b_1 && b_1)=true∧(b_2=false→(b_1
 && b_1 && !b_2)=true))∧(b_1=true→b_1=true))∧bif bif b_1 then bif b_2 then true else decide (IntKind.wrap .i64 (List.getD s (bestTo s x_2.2.1 x_2.2.2 x_4).toNat (0:Int) - List.getD x_2.2.1 (bestTo s x_2.2.1 x_2.2.2 x_4).toNat (0:Int))<IntKind.wrap
 .i64 (List.getD s (x_4:Int).toNat (0:Int) - List.getD x_2.2.1 (x_4:Int).toNat (0:Int))) else false then ∃ (y:Nat),(x_2.2.2=x_2.2.2∧0=0∧0=0∧0=0∧0=0∧(x_4:Int)=bestTo s x_2.2.1 x_2.2.2 y∧IntKind.wrap .i64 ((x_4:Int)+1)=(y:Int)∧s=s∧false=false∧(0:Int)
 :: List.replicate (nat_lit 7) (0:Int)=List.replicate 8 (0:Int)∧false=false∧List.append (List.take x costF) (List.drop x (List.replicate 13 (0:Int)))=List.take x costF ++ List.drop x (List.replicate 13 (0:Int))∧false=false∧x_2.2.1=x_2.2.1∧false=false)∧y≤8∧8
 - y<8 - x_4 else ∃ (y:Nat),(x_2.2.2=x_2.2.2∧0=0∧0=0∧0=0∧0=0∧bestTo s x_2.2.1 x_2.2.2 x_4=bestTo s x_2.2.1 x_2.2.2 y∧IntKind.wrap .i64 ((x_4:Int)+1)=(y:Int)∧s=s∧false=false∧(0:Int) :: List.replicate (nat_lit 7) (0:Int)=List.replicate
 8 (0:Int)∧false=false∧List.append (List.take x costF) (List.drop x (List.replicate 13 (0:Int)))=List.take x costF ++ List.drop x (List.replicate 13 (0:Int))∧false=false∧x_2.2.1=x_2.2.1∧false=false)∧y≤8∧8 - y<8 - x_4 else bif decide
 (bestTo s x_2.2.1 x_2.2.2 x_4<0) then x_2.2.1=refF s bits else ((0≤bestTo s x_2.2.1 x_2.2.2 x_4∧bestTo s x_2.2.1 x_2.2.2 x_4<(↑ (8:Nat):Int))∧(bestTo s x_2.2.1 x_2.2.2 x_4).toNat<8∧(0≤IntKind.wrap .i64 (List.getD x_2.2.1 (bestTo s x_2.2.1
 x_2.2.2 x_4).toNat (0:Int)+1)∧IntKind.wrap .i64 (List.getD x_2.2.1 (bestTo s x_2.2.1 x_2.2.2 x_4).toNat (0:Int)+1)<(↑ (13:Nat):Int))∧(IntKind.wrap .i64 (List.getD x_2.2.1 (bestTo s x_2.2.1 x_2.2.2 x_4).toNat (0:Int)+1)).toNat<13∧(0≤bestTo
 s x_2.2.1 x_2.2.2 x_4∧bestTo s x_2.2.1 x_2.2.2 x_4<(↑ (8:Nat):Int))∧(bestTo s x_2.2.1 x_2.2.2 x_4).toNat<8∧(0≤List.getD x_2.2.1 (bestTo s x_2.2.1 x_2.2.2 x_4).toNat (0:Int)∧List.getD x_2.2.1 (bestTo s x_2.2.1 x_2.2.2 x_4).toNat (0:Int)<(↑
 (13:Nat):Int))∧(List.getD x_2.2.1 (bestTo s x_2.2.1 x_2.2.2 x_4).toNat (0:Int)).toNat<13)∧((0≤bestTo s x_2.2.1 x_2.2.2 x_4∧bestTo s x_2.2.1 x_2.2.2 x_4<(↑ (8:Nat):Int))∧(bestTo s x_2.2.1 x_2.2.2 x_4).toNat<8∧(0≤bestTo s x_2.2.1 x_2.2.2
 x_4∧bestTo s x_2.2.1 x_2.2.2 x_4<(↑ (8:Nat):Int))∧(bestTo s x_2.2.1 x_2.2.2 x_4).toNat<8)∧∃ (y:Nat × List Int × Int),(IntKind.wrap .i64 (IntKind.wrap .i64 (x_2.2.2 - List.getD (List.take x costF ++ List.drop x (List.replicate 13 (0:Int)))
 (IntKind.wrap .i64 (List.getD x_2.2.1 (bestTo s x_2.2.1 x_2.2.2 x_4).toNat (0:Int)+1)).toNat (0:Int))+List.getD (List.take x costF ++ List.drop x (List.replicate 13 (0:Int))) (List.getD x_2.2.1 (bestTo s x_2.2.1 x_2.2.2 x_4).toNat (0:Int)).toNat
 (0:Int))=y.2.2∧0=0∧0=0∧0=0∧0=0∧s=s∧false=false∧(0:Int) :: List.replicate (nat_lit 7) (0:Int)=List.replicate 8 (0:Int)∧false=false∧List.append (List.take x costF) (List.drop x (List.replicate 13 (0:Int)))=List.take x costF ++ List.drop
 x (List.replicate 13 (0:Int))∧false=false∧List.set x_2.2.1 (bestTo s x_2.2.1 x_2.2.2 x_4).toNat (IntKind.wrap .i64 (List.getD x_2.2.1 (bestTo s x_2.2.1 x_2.2.2 x_4).toNat (0:Int)+1))=y.2.1∧false=false)∧(RI bits y.2∧y.1≤100∧96 - sumK
 y.2.1<(↑ y.1:Int)∧refRun s y.1 y.2=refF s bits)∧y.1<x_2.1
theorem vc62 (s : List Int) (bits : Int) : P62 s bits = vcFun C62 (ann62 s bits) Go.Proofs.Tryd.f38 [⟨.arr 8 (.int .i64), s⟩, ⟨.int .i64, bits⟩] [] (out62 s bits) := by kernel_rfl

end Go.SL.A

/- The document's vectors of four are those of the code, in order. -/
namespace Go.SL.A
open Go Go.SL Go.SL.S

/-- All vectors of n numbers with K pulses, in order. -/
def allV : Nat → Nat → List (List Int)
  | 0, K => if K = 0 then [[]] else []
  | n + 1, K => (numsF K).flatMap fun z => (allV n (K - (sz13 z).toNat)).map (z :: ·)

theorem nums_sz {K : Nat} (hK : K ≤ 12) {z : Int} (h : z ∈ numsF K) : szR z = sz13 z ∧ 0 ≤ sz13 z ∧ sz13 z ≤ K := by
  have h1 := szR_nums hK h
  have h2 := mem_numsF.1 h
  have h3 := sz13_small (z := z) (by omega) (by omega)
  rw [h3]; omega

theorem flat_nil {α β : Type} {f : α → List β} : ∀ {l : List α}, (∀ x ∈ l, f x = []) → l.flatMap f = []
  | [], _ => rfl
  | x :: l, h => by rw [List.flatMap_cons, h x (by simp), flat_nil fun y hy => h y (by simp [hy])]; rfl

theorem allV_one : ∀ L : Nat, L ≤ 12 → allV 1 L = if 0 < L then [[(L : Int)], [-(L : Int)]] else [[(L : Int)]]
  | 0, _ => by decide
  | L + 1, h => by
    rw [allV, numsF, List.flatMap_append, flat_nil (l := numsF L), if_pos (by omega)]
    · have e1 : sz13 ((L + 1 : Nat) : Int) = ((L + 1 : Nat) : Int) := by rw [sz13_small (by omega) (by omega)]; omega
      have e2 : sz13 (-((L + 1 : Nat) : Int)) = ((L + 1 : Nat) : Int) := by rw [sz13_small (by omega) (by omega)]; omega
      simp only [List.flatMap_cons, List.flatMap_nil, e1, e2, Int.toNat_natCast, Nat.sub_self, allV, if_true, List.map_cons, List.map_nil, List.append_nil, List.nil_append, List.singleton_append]
    · intro z hz
      obtain ⟨z1, z2, z3⟩ := nums_sz (by omega) hz
      rw [allV, if_neg (by omega)]; rfl

end Go.SL.A

/- What is found, and how far it is: plain laws. -/
namespace Go.SL.A
open Go Go.SL Go.SL.S

theorem sz_abs {x : Int} (h : -12 ≤ x ∧ x ≤ 12) : sz13 x = absF x := by rw [sz13_small h.1 h.2]; rfl

theorem sum_sz {y : List Int} (hl : y.length = 4) (hf : ∀ i, -12 ≤ y.getD i 0 ∧ y.getD i 0 ≤ 12) : sumSz y = sumF y := by
  obtain ⟨a, b, c, d, rfl⟩ := len4 hl
  have h0 := hf 0
  have h1 := hf 1
  have h2 := hf 2
  have h3 := hf 3
  simp only [sumSz, sumF] at *
  have e0 := sz_abs h0
  have e1 := sz_abs h1
  have e2 := sz_abs h2
  have e3 := sz_abs h3
  simp only [List.getD_cons_zero, List.getD_cons_succ] at *
  omega

/-- What is found. -/
structure Found (c : List Int) (s k : Int) (y : List Int) : Prop where
  len : y.length = 4
  few : fewF y = true
  sg : ∀ i, i < 4 → sgn (c.getD i 0) (y.getD i 0)
  sum : sumF y = k
  best : ∀ z, sumF z = k → farF c y (gainF s) ≤ farF c z (gainF s)

theorem Found.pulses {c : List Int} {s k : Int} {y : List Int} (h : Found c s k y) (hk : k ≤ 12) : pulsesF y = k := by
  unfold pulsesF
  rw [if_neg (by rw [h.len]; decide), sum_sz h.len (fewF_at h.few), h.sum]; omega

end Go.SL.A

/- Give: how many pulses each band has, by the program and by the document. -/
namespace Go.SL.A
open Go Go.SL Go.SL.S

theorem hw57 {s : List Int} {bits : Int} (hw : Go.SL.allP (List.flatMap (fun a : AV => a.t.wf a.x) [⟨.arr 8 (.int .i64), s⟩, ⟨.int .i64, bits⟩] ++ List.flatMap Blk.wf [])) : s.length = 8 := by
  simp only [List.flatMap_cons, List.flatMap_nil, Ty.wf, List.append_nil, List.cons_append, List.nil_append, Go.SL.allP] at hw
  exact hw.1

theorem right_at {s : List Int} (h : rightF s = true) (b : Nat) : 0 ≤ s.getD b 0 ∧ s.getD b 0 ≤ 15 := by
  by_cases hb : b < s.length
  · unfold rightF at h
    simp only [Bool.not_eq_true', List.any_eq_false] at h
    have := h _ (getD_mem (d := 0) hb)
    unfold badF at this
    simp only [Bool.or_eq_true, decide_eq_true_eq] at this; omega
  · rw [List.getD_eq_getElem?_getD, List.getElem?_eq_none (by omega)]; simp

theorem giveE_no {s : List Int} {bits : Int} (h : ¬ (rightF s = false ∨ bits < 0 ∨ 1048576 < bits)) : giveE s bits = 0 := by unfold giveE; rw [if_neg h]
theorem giveE_yes {s : List Int} {bits : Int} (h : rightF s = false ∨ bits < 0 ∨ 1048576 < bits) : giveE s bits = 1 := by unfold giveE; rw [if_pos h]

theorem pure57 (s : List Int) (bits : Int) (_hl : s.length = 8) : P57 s bits := by
  unfold P57
  intro b hb b1 hb1
  refine ⟨by cases b <;> cases b1 <;> simp, ?_⟩
  by_cases harg : rightF s = false ∨ bits < 0 ∨ 1048576 < bits
  · have e1 : (bif b1 then true else decide (1048576 < bits)) = true := by
      rw [← hb1, ← hb]
      by_cases h1 : rightF s = false
      · simp [h1]
      · by_cases h2 : bits < 0
        · simp [h2]
        · have h3 : 1048576 < bits := by rcases harg with h | h | h <;> first | exact h | exact absurd h h1 | exact absurd h h2
          simp [h3]
    have hE := giveE_yes harg
    rw [e1, cond_true]
    unfold giveV
    rw [hE, if_neg (by decide)]
    exact ⟨rfl, rfl⟩
  · have h1 : rightF s = true := by
      cases h : rightF s with
      | true => rfl
      | false => exact absurd (Or.inl h) harg
    have h2 : 0 ≤ bits ∧ bits ≤ 1048576 := by
      constructor
      · exact Int.not_lt.1 fun h => harg (.inr (.inl h))
      · exact Int.not_lt.1 fun h => harg (.inr (.inr h))
    have e1 : (bif b1 then true else decide (1048576 < bits)) = false := by
      rw [← hb1, ← hb, h1]
      have a1 : ¬ bits < 0 := by omega
      have a2 : ¬ 1048576 < bits := by omega
      simp [a1, a2]
    have hE := giveE_no harg
    have hV : giveV s bits = (giveRun 200 (pushQ s 8, z8, bits)).2.1 := by unfold giveV; rw [if_pos hE]; rfl
    rw [e1, cond_false, hV, hE]
    clear hb hb1 e1
    simp only [eq_self, true_and, and_true, Int.toNat_natCast]
    refine ⟨0, ⟨⟨rfl, rfl, rfl, rfl, rfl⟩, by omega⟩, fun i hi _ => ?_⟩
    by_cases h8 : (i : Int) < 8
    · simp only [h8, decide_true, cond_true]
      exact ⟨by omega, ⟨(pushQ_len s i).symm, by omega⟩, i + 1, ⟨step_i (by omega), rfl, rfl, rfl, rfl⟩, by omega, by omega⟩
    · have : i = 8 := by omega
      subst this
      simp only [h8, decide_false, cond_false]
      refine ⟨(pushQ s 8, z8, bits), ⟨⟨rfl, rfl, rfl, (pushQ_len s 8).symm, rfl⟩, GI.init s h2.1, by rw [giveMu_init]⟩, fun x hx _ => ?_⟩
      obtain ⟨G, he⟩ := hx
      by_cases h0 : (0 : Int) < ((x.1.length : Nat) : Int)
      · simp only [h0, decide_true, cond_true]
        have h0' : 0 < x.1.length := by omega
        obtain ⟨G2, hmu⟩ := G.step h0'
        have hlen := G.len
        obtain ⟨c, hc, e, -⟩ := G.top h0'
        have hk := G.kr c hc
        have hs := right_at h1 c
        have hb0 := G.b0
        have hsum := G.sum
        have hsC := sumC_fits x.2.1
        have hstep : giveRun (giveMu (giveStep x)) (giveStep x) = giveRun 200 (pushQ s 8, z8, bits) := by
          rw [← he]
          obtain ⟨m, hm⟩ : ∃ m, giveMu x = m + 1 := ⟨giveMu x - 1, by omega⟩
          rw [hm, giveRun_step h0', (giveRun_fuel m _ G2 (by omega)).1]
        have hpl := pop_len ltQ qz h0'
        have hz : ((0 : Int), (0 : Int)) = qz := rfl
        simp only [e, Int.toNat_natCast]
        rw [w64 (n := x.2.1.getD c 0 + 1) (by omega) (by omega)]
        refine ⟨⟨by omega, by omega⟩, ⟨⟨by omega, by omega⟩, by omega⟩, ?_⟩
        intro d hd
        have hd' : d = false → x.2.1.getD c 0 < 12 := by
          intro hdf
          rw [hdf] at hd
          simpa using hd
        have hd2 : (!d) = true → x.2.1.getD c 0 < 12 := fun h => hd' (by cases d with
          | true => cases h
          | false => rfl)
        refine ⟨⟨fun h => h, fun h => ⟨h, by have := hd2 h; omega⟩, fun h => ⟨h, by have := hd2 h; omega⟩, fun h => ⟨h, by have := hd2 h; omega⟩, fun h => ⟨h, by have := hd2 h; omega⟩, fun h => ⟨h, h⟩, fun h => ⟨h, h⟩, fun h => by rw [h]; rfl⟩, ?_⟩
        have hcond : (bif d then true else decide (x.2.2 < IntKind.i64.wrap (costF.getD (x.2.1.getD c 0 + 1).toNat 0 - costF.getD (x.2.1.getD c 0).toNat 0))) = noMore (x.2.1.getD c 0) x.2.2 := by
          unfold noMore
          rw [hd]
          cases d with
          | true => rfl
          | false =>
            have hm := more_nn hk.1 (hd' rfl)
            unfold moreF at hm ⊢
            rw [w64 (by omega) (by omega)]; rfl
        rw [hcond]
        cases hn : noMore (x.2.1.getD c 0) x.2.2 with
        | true =>
          simp only [cond_true]
          have e2 : giveStep x = (popL ltQ qz x.1, x.2.1, x.2.2) := by
            unfold giveStep; simp only [e, Int.toNat_natCast, hn, if_true]
          rw [e2] at G2 hmu hstep
          exact ⟨(popL ltQ qz x.1, x.2.1, x.2.2), ⟨rfl, rfl, rfl, hpl.symm, rfl⟩, ⟨G2, hstep⟩, hmu⟩
        | false =>
          simp only [cond_false]
          have hn' : x.2.1.getD c 0 < 12 ∧ moreF (x.2.1.getD c 0) ≤ x.2.2 := feas_iff.2 hn
          have hm := more_nn hk.1 hn'.1
          have e2 : giveStep x = (pushL ltQ qz (popL ltQ qz x.1) ((c : Int), s.getD c 0 - x.2.1.getD c 0 - 1), x.2.1.set c (x.2.1.getD c 0 + 1), x.2.2 - moreF (x.2.1.getD c 0)) := by
            unfold giveStep; simp only [e, Int.toNat_natCast, hn]; rfl
          rw [e2] at G2 hmu hstep
          have w1 : IntKind.i64.wrap (costF.getD (x.2.1.getD c 0 + 1).toNat 0 - costF.getD (x.2.1.getD c 0).toNat 0) = moreF (x.2.1.getD c 0) := by
            unfold moreF at hm ⊢; exact w64 (by omega) (by omega)
          rw [w1, w64 (n := x.2.2 - moreF (x.2.1.getD c 0)) (by omega) (by omega), w64 (n := s.getD c 0 - x.2.1.getD c 0 - 1) (by omega) (by omega)]
          refine ⟨⟨⟨by omega, by omega⟩, by omega, ⟨by omega, by omega⟩, by omega⟩, ⟨⟨by omega, by omega⟩, by omega, ⟨by omega, by omega⟩, by omega⟩, ⟨hpl.symm, by omega⟩, _, ⟨rfl, rfl, rfl, ?_, rfl⟩, ⟨G2, hstep⟩, hmu⟩
          simp only [pushL_len, hpl]
      · simp only [h0, decide_false, cond_false]
        have hx : x.1 = [] := List.eq_nil_of_length_eq_zero (by omega)
        rw [giveRun_nil _ x hx] at he
        rw [← he]

theorem pure62 (s : List Int) (bits : Int) (h1 : rightF s = true) (h2 : 0 ≤ bits ∧ bits ≤ 1048576) (_hl : s.length = 8) : P62 s bits := by
  unfold P62
  simp only [eq_self, true_and, and_true, Int.toNat_natCast]
  refine ⟨0, ⟨⟨rfl, rfl, rfl⟩, by omega⟩, fun i hi _ => ?_⟩
  by_cases h13 : (i : Int) < 13
  · simp only [h13, decide_true, cond_true]
    exact ⟨⟨by omega, by omega, by omega⟩, i + 1, ⟨step_i (by omega), rfl, set_step (by rw [costF_len]; omega) (by simp; omega) (costF_at (by omega))⟩, by omega, by omega⟩
  · have eC : List.take i costF ++ List.drop i (List.replicate 13 (0 : Int)) = costF := cost_end (by omega)
    have eC' : List.append (List.take i costF) (List.drop i (List.replicate 13 (0 : Int))) = costF := eC
    simp only [h13, decide_false, cond_false, eC, eC', eq_self, true_and, and_true]
    refine ⟨(100, z8, bits), ⟨⟨rfl, rfl, rfl⟩, ⟨rfl, fun b _ => by simp only [z8_at]; omega, h2.1, Int.le_refl _⟩, by show (100 : Nat) ≤ 100; decide, by show 96 - sumK z8 < ((100 : Nat) : Int); decide, rfl⟩, fun x hx _ => ?_⟩
    obtain ⟨f, k, m⟩ := x
    obtain ⟨R, hf, hsk, he⟩ := hx
    simp only at R hf hsk he ⊢
    have hm0 := R.b0
    have hm1 := R.b1
    simp only at hm0 hm1
    have hkr := R.kr
    have hkl := R.klen
    simp only at hkr hkl
    refine ⟨0, ⟨⟨rfl, rfl, rfl⟩, by omega⟩, fun b hb _ => ?_⟩
    by_cases h8 : (b : Int) < 8
    · simp only [h8, decide_true, cond_true]
      have hk := hkr b (by omega)
      have hs := right_at h1 b
      rw [w64 (n := k.getD b 0 + 1) (by omega) (by omega)]
      intro p hp q hq r hr
      have hp12 : p = true → k.getD b 0 < 12 := fun hpt => by rw [hpt] at hp; simpa using hp
      have hqf : q = true ↔ feas k m b := by
        unfold feas
        rw [← hq]
        cases p with
        | true =>
          have hk12 := hp12 rfl
          have hmm := more_nn hk.1 hk12
          unfold moreF at hmm ⊢
          rw [w64 (by omega) (by omega), cond_true, decide_eq_true_eq]
          exact ⟨fun h => ⟨hk12, h⟩, fun h => h.2⟩
        | false =>
          have : ¬ k.getD b 0 < 12 := by simpa using hp
          rw [cond_false]
          exact ⟨fun h => (by cases h), fun h => absurd h.1 this⟩
      have hbc := best_cases s k m b
      have hrr : r = true ↔ bestTo s k m b < 0 := by rw [← hr]; simp
      have hbest : (q && q && !r) = true → ∃ c : Nat, c < b ∧ bestTo s k m b = (c : Int) := by
        intro h
        have hrf : r = false := by cases r <;> simp_all
        rcases hbc with ⟨h3, _⟩ | ⟨c, h3, h4, _⟩
        · have := hrr.2 (by omega); rw [hrf] at this; cases this
        · exact ⟨c, h3, h4⟩
      have bnd : (q && q && !r) = true → 0 ≤ bestTo s k m b ∧ bestTo s k m b < ((8 : Nat) : Int) ∧ (bestTo s k m b).toNat < 8 := by
        intro h
        obtain ⟨c, h3, h4⟩ := hbest h
        rw [h4]; omega
      have hv : (bif q then bif r then true else decide (IntKind.i64.wrap (s.getD (bestTo s k m b).toNat 0 - k.getD (bestTo s k m b).toNat 0) < IntKind.i64.wrap (s.getD b 0 - k.getD b 0)) else false) = true ↔
          (k.getD b 0 < 12 ∧ moreF (k.getD b 0) ≤ m ∧ (bestTo s k m b < 0 ∨ s.getD (bestTo s k m b).toNat 0 - k.getD (bestTo s k m b).toNat 0 < s.getD b 0 - k.getD b 0)) := by
        cases q with
        | false =>
          simp only [cond_false, Bool.false_eq_true, false_iff]
          rintro ⟨h3, h4, -⟩
          have := hqf.2 ⟨h3, h4⟩
          cases this
        | true =>
          obtain ⟨h3, h4⟩ := hqf.1 rfl
          cases r with
          | true => simp only [cond_true, true_iff]; exact ⟨h3, h4, .inl (hrr.1 rfl)⟩
          | false =>
            obtain ⟨c, h5, h6⟩ := hbest rfl
            have hkc := hkr c (by omega)
            have hsc := right_at h1 c
            rw [h6]
            simp only [Int.toNat_natCast, cond_true, cond_false, decide_eq_true_eq]
            rw [w64 (n := s.getD c 0 - k.getD c 0) (by omega) (by omega), w64 (n := s.getD b 0 - k.getD b 0) (by omega) (by omega)]
            constructor
            · intro h; exact ⟨h3, h4, .inr h⟩
            · rintro ⟨-, -, h | h⟩
              · omega
              · exact h
      have e8 : ((8 : Nat) : Int) = 8 := rfl
      refine ⟨⟨by omega, by omega, fun h => ⟨h, by omega⟩, fun h => ⟨h, by omega⟩, fun h => h, fun h => ⟨h, by have := hp12 h; omega⟩, fun h => ⟨h, by have := hp12 h; omega⟩, fun h => ⟨h, by omega⟩, fun h => ⟨h, by omega⟩, fun h => ⟨h, by omega⟩, fun h => ⟨h, by omega⟩, fun h => ⟨h, h⟩, fun h => ⟨h, h⟩, fun h => h, fun h => h,
        fun h => ⟨h, by omega⟩, fun h => ⟨h, by omega⟩, fun h => ⟨h, by omega⟩, fun h => ⟨h, by omega⟩, fun h => ⟨h, h⟩, fun h => ⟨h, by have := bnd h; omega⟩, fun h => ⟨h, by have := bnd h; omega⟩, fun h => ⟨h, by have := bnd h; omega⟩, fun h => ⟨h, by have := bnd h; omega⟩, fun h => ⟨h, h⟩, fun h => ⟨h, h⟩, fun h => ?_, fun h => h⟩, ?_⟩
      · subst h; refine ⟨rfl, fun h => by subst h; rfl⟩
      · have hnext : bestTo s k m (b + 1) = if k.getD b 0 < 12 ∧ moreF (k.getD b 0) ≤ m ∧ (bestTo s k m b < 0 ∨ s.getD (bestTo s k m b).toNat 0 - k.getD (bestTo s k m b).toNat 0 < s.getD b 0 - k.getD b 0) then (b : Int) else bestTo s k m b := rfl
        generalize hV : (bif q then bif r then true else decide (IntKind.i64.wrap (s.getD (bestTo s k m b).toNat 0 - k.getD (bestTo s k m b).toNat 0) < IntKind.i64.wrap (s.getD b 0 - k.getD b 0)) else false) = V at hv
        cases V with
        | true =>
          rw [if_pos (hv.1 rfl)] at hnext
          simp only [cond_true]
          exact ⟨b + 1, ⟨hnext.symm, step_i (by omega), rfl⟩, by omega, by omega⟩
        | false =>
          rw [if_neg (fun h => by have := hv.2 h; cases this)] at hnext
          simp only [cond_false]
          exact ⟨b + 1, ⟨hnext.symm, step_i (by omega), rfl⟩, by omega, by omega⟩
    · have : b = 8 := by omega
      subst this
      simp only [h8, decide_false, cond_false]
      by_cases hneg : bestTo s k m 8 < 0
      · simp only [hneg, decide_true, cond_true]
        rw [← he, refRun_stop (by exact hneg)]
      · simp only [hneg, decide_false, cond_false]
        rcases best_cases s k m 8 with ⟨h3, _⟩ | ⟨c, h3, h4, h5⟩
        · omega
        · rw [h4]
          simp only [Int.toNat_natCast]
          have hkc := hkr c h3
          have hmm := more_nn hkc.1 h5.1
          have h6 := h5.2
          rw [w64 (n := k.getD c 0 + 1) (by omega) (by omega)]
          have hcl : c < k.length := by omega
          have cost_fit : ∀ j, 0 ≤ costF.getD j 0 ∧ costF.getD j 0 ≤ 10000000000 := by
            intro j
            by_cases hj : j < 13
            · rw [List.getD_eq_getElem?_getD, costF_at hj]; exact bitsF_fits _
            · rw [List.getD_eq_getElem?_getD, List.getElem?_eq_none (by rw [costF_len]; omega)]; simp
          have c1 := cost_fit (k.getD c 0 + 1).toNat
          have c2 := cost_fit (k.getD c 0).toNat
          have hw : IntKind.i64.wrap (IntKind.i64.wrap (m - costF.getD (k.getD c 0 + 1).toNat 0) + costF.getD (k.getD c 0).toNat 0) = m - moreF (k.getD c 0) := by
            unfold moreF
            rw [w64 (n := m - costF.getD (k.getD c 0 + 1).toNat 0) (by omega) (by omega), w64 (by omega) (by omega)]; omega
          rw [hw]
          have hset := set_at k c
          have h51 := h5.1
          refine ⟨⟨⟨by omega, by omega⟩, by omega, ⟨by omega, by omega⟩, by omega, ⟨by omega, by omega⟩, by omega, ⟨by omega, by omega⟩, by omega⟩, ⟨⟨by omega, by omega⟩, by omega, ⟨by omega, by omega⟩, by omega⟩, (f - 1, k.set c (k.getD c 0 + 1), m - moreF (k.getD c 0)), ⟨rfl, rfl, rfl⟩, ⟨⟨by simp only [List.length_set]; exact hkl, fun d hd => ?_, by simp only; omega, by simp only; omega⟩, by simp only; omega, ?_, ?_⟩, ?_⟩
          · simp only [hset d _ hcl]
            split
            · have := h5.1; omega
            · exact hkr d hd
          · simp only [sumK_set _ _ _ hcl]
            have hsl := sumK_le k (fun d hd => (hkr d (by omega)).2)
            rw [hkl] at hsl
            omega
          · have hsl := sumK_le k (fun d hd => (hkr d (by omega)).2)
            rw [hkl] at hsl
            obtain ⟨g, rfl⟩ : ∃ g, f = g + 1 := ⟨f - 1, by omega⟩
            rw [← he, refRun, if_neg (by simp only; omega)]
            simp only [h4, Int.toNat_natCast, Nat.add_sub_cancel]
          · have hsl := sumK_le k (fun d hd => (hkr d (by omega)).2)
            rw [hkl] at hsl
            simp only; omega

end Go.SL.A

/- Functions do what they are held to do. -/
namespace Go.SL.A
open Go Go.SL Go.SL.S
theorem snd57 : Sound Go.Proofs.Tryd.prog G57 := snd61.add ⟨_, Go.Proofs.Tryd.func63, by kernel_rfl, by kernel_rfl⟩ (by
  intro args ins out h hp
  unfold sp57 at h
  split at h
  · rename_i s bits
    cases h
    exact vcFun_ok (C := C57) good snd61 methOk18 mix Go.Proofs.Tryd.func63 (ann57 s bits) (fun hw => by rw [← vc57 s bits]; exact pure57 s bits (hw57 hw))
  · cases h)

theorem snd62 : Sound Go.Proofs.Tryd.prog G62 := snd57.add ⟨_, Go.Proofs.Tryd.func38, by kernel_rfl, by kernel_rfl⟩ (by
  intro args ins out h hp
  unfold sp62 at h
  split at h
  · rename_i s bits
    cases h
    exact vcFun_ok (C := C62) good snd57 methOk18 mix Go.Proofs.Tryd.func38 (ann62 s bits) (fun hw => by rw [← vc62 s bits]; exact pure62 s bits hp.1 hp.2 (hw57 hw))
  · cases h)

end Go.SL.A

/- How much may be changed: plain functions. -/
namespace Go.SL.S
open Go Go.SL
def mayM (s : List Int) (b : Int) : Bool := rightF s && (decide (0 ≤ b) && decide (b < 8))
def slopeX (x steep bands : Int) : Int := x / 2 ^ (steep * bands).toNat
def budX (s : List Int) (b : Int) (j : Nat) : Int := if (j : Int) ≤ b then slopeX (4 * 2 ^ (s.getD j 0).toNat) 1 (b - (j : Int)) else slopeX (4 * 2 ^ (s.getD j 0).toNat) 2 ((j : Int) - b)
def budTo (s : List Int) (b : Int) : Nat → Int
  | 0 => 0
  | j + 1 => max (budTo s b j) (budX s b j)
def budF (s : List Int) (b : Int) : Int := if mayM s b then budTo s b 8 else 0
def movF (s : List Int) (b : Int) : Int := if mayM s b then budTo s b 8 / 2 ^ (s.getD b.toNat 0).toNat else 0
def absZ (x : Int) : Int := max x (-x)
def farM (y z : List Int) : Nat → Int
  | 0 => 0
  | n + 1 => farM y z n + absZ (y.getD n 0 - z.getD n 0)
def smallV (y : List Int) : Prop := ∀ i, i < 4 → -1000 ≤ y.getD i 0 ∧ y.getD i 0 ≤ 1000
def mayV (s : List Int) (b : Int) (y z : List Int) : Bool := mayM s b && decide (farM y z 4 ≤ movF s b)
def dotZ (y c : List Int) : Nat → Int
  | 0 => 0
  | n + 1 => dotZ y c n + y.getD n 0 * c.getD n 0
end Go.SL.S

/- Functions and what they are held to do: bound to their code. -/
namespace Go.SL.A
open Go Go.SL Go.SL.S
set_option maxRecDepth 100000
noncomputable def Cd129 : Ctx := ⟨Go.Proofs.Tryd.prog, D, G62, (fun _ _ => none), fun _ => []⟩
def annd129 (_x _n _st : Int) : Nat → St → Option Ann := fun _ _ => none
def outd129 (x n st : Int) : COut := ⟨[0 ≤ x ∧ x ≤ 1000000000 ∧ 0 ≤ st ∧ st ≤ 2 ∧ 0 ≤ n ∧ n ≤ 8], .v (.int .i64) (slopeX x st n), [], []⟩
def spd129 : Spec := fun args ins => match args, ins with
  | [⟨.int .i64, x⟩, ⟨.int .i64, n⟩, ⟨.ref .ptr, .ptr 0 (.int .i64) [0]⟩], [⟨false, true, .int .i64, [st]⟩] => some (outd129 x n st)
  | _, _ => none
def Gd129 := addG G62 159 spd129
def Pd129 (x n st : Int) : Prop :=
 0≤IntKind.wrap .i64 (st * n)∧ishr .i64 x (IntKind.wrap .i64 (st * n))=slopeX x st n∧st=st∧false=false
theorem vcd129 (x n st : Int) : Pd129 x n st = vcFun Cd129 (annd129 x n st) Go.Proofs.Tryd.f159 [⟨.int .i64, x⟩, ⟨.int .i64, n⟩, ⟨.ref .ptr, .ptr 0 (.int .i64) [0]⟩] [⟨false, true, .int .i64, [st]⟩] (outd129 x n st) := by kernel_rfl

noncomputable def Cd110 : Ctx := ⟨Go.Proofs.Tryd.prog, D, Gd129, (fun _ _ => none), fun _ => []⟩
def annd110 (_st : Int) : Nat → St → Option Ann := fun _ _ => none
def outd110 (st : Int) : COut := ⟨[], .v (.ref .func) (.func (.func 159) [] [.ptr 0 (.int .i64) [0]]), [], [⟨false, true, .int .i64, [st]⟩]⟩
def spd110 : Spec := fun args ins => match args, ins with
  | [⟨.int .i64, st⟩], [] => some (outd110 st)
  | _, _ => none
def Gd110 := addG Gd129 139 spd110
def Pd110 (st : Int) : Prop :=
 0=0∧st=st∧false=false
theorem vcd110 (st : Int) : Pd110 st = vcFun Cd110 (annd110 st) Go.Proofs.Tryd.f139 [⟨.int .i64, st⟩] [] (outd110 st) := by kernel_rfl

noncomputable def Cd70 : Ctx := ⟨Go.Proofs.Tryd.prog, D, Gd110, (fun _ _ => none), fun _ => []⟩
def annd70 (_s : List Int) (_b : Int) : Nat → St → Option Ann := fun _ _ => none
def outd70 (s : List Int) (b : Int) : COut := ⟨[], .v .bool (mayM s b), [], []⟩
def spd70 : Spec := fun args ins => match args, ins with
  | [⟨.arr 8 (.int .i64), s⟩, ⟨.int .i64, b⟩], [] => some (outd70 s b)
  | _, _ => none
def Gd70 := addG Gd110 66 spd70
def Pd70 (s : List Int) (b : Int) : Prop :=
 ∀ (b_1:Bool),rightF s=b_1→∀ (b_2:Bool),(bif b_1 then decide (0≤b) else false)=b_2→((b_1=true→b_1=true)∧(b_1=true→b_1=true)∧(b_2=true→b_2=true)∧(b_2=true→b_2=true))∧(bif b_2 then decide (b<8) else false)=mayM s b
theorem vcd70 (s : List Int) (b : Int) : Pd70 s b = vcFun Cd70 (annd70 s b) Go.Proofs.Tryd.f66 [⟨.arr 8 (.int .i64), s⟩, ⟨.int .i64, b⟩] [] (outd70 s b) := by kernel_rfl

noncomputable def Cd83 : Ctx := ⟨Go.Proofs.Tryd.prog, D, Gd70, (fun _ _ => none), fun _ => []⟩
def annd83 (s : List Int) (b : Int) : Nat → St → Option Ann := fun _ _ => some ⟨Nat, [1, 5, 6, 17], [1, 2], fun j => [(18, .v (.int .i64) (j : Int)), (7, .v (.int .i64) (budTo s b j))], fun _ => [], fun j => j ≤ 8, fun j => 8 - j⟩
def outd83 (s : List Int) (b : Int) : COut := ⟨[], .v (.int .i64) (budF s b), [], []⟩
def spd83 : Spec := fun args ins => match args, ins with
  | [⟨.arr 8 (.int .i64), s⟩, ⟨.int .i64, b⟩], [] => some (outd83 s b)
  | _, _ => none
def Gd83 := addG Gd70 108 spd83
def Pd83 (s : List Int) (b : Int) : Prop :=
 bif !mayM s b then 0=budF s b else ∃ (x:Nat),((b=b∧0=0∧0=0∧0=budTo s b x∧s=s∧0=(x:Int)∧(1:Int)=1∧false=false∧(2:Int)=2∧false=false)∧x≤8)∧∀ (x:Nat),x≤8→IntKind.min .i64≤(x:Int)∧(x:Int)≤IntKind.max .i64∧IntKind.min .i64≤budTo s b x∧budTo
 s b x≤IntKind.max .i64→bif decide ((x:Int)<8) then (0≤(x:Int)∧(x:Int)<(↑ (8:Nat):Int))∧0≤List.getD s (x:Int).toNat (0:Int)∧bif decide ((x:Int)≤b) then (0≤ishl .i64 (4:Int) (List.getD s (x:Int).toNat (0:Int))∧ishl .i64 (4:Int) (List.getD
 s (x:Int).toNat (0:Int))≤1000000000∧(0:Int)≤1∧(1:Int)≤2∧0≤IntKind.wrap .i64 (b - (x:Int))∧IntKind.wrap .i64 (b - (x:Int))≤8)∧∃ (y:Nat),(b=b∧0=0∧0=0∧max (budTo s b x) (slopeX (ishl .i64 (4:Int) (List.getD s (x:Int).toNat (0:Int))) (1:Int)
 (IntKind.wrap .i64 (b - (x:Int))))=budTo s b y∧s=s∧IntKind.wrap .i64 ((x:Int)+1)=(y:Int)∧(1:Int)=1∧false=false∧(2:Int)=2∧false=false)∧y≤8∧8 - y<8 - x else (0≤ishl .i64 (4:Int) (List.getD s (x:Int).toNat (0:Int))∧ishl .i64 (4:Int) (List.getD
 s (x:Int).toNat (0:Int))≤1000000000∧(0:Int)≤2∧(2:Int)≤2∧0≤IntKind.wrap .i64 ((x:Int) - b)∧IntKind.wrap .i64 ((x:Int) - b)≤8)∧∃ (y:Nat),(b=b∧0=0∧0=0∧max (budTo s b x) (slopeX (ishl .i64 (4:Int) (List.getD s (x:Int).toNat (0:Int))) (2:Int)
 (IntKind.wrap .i64 ((x:Int) - b)))=budTo s b y∧s=s∧IntKind.wrap .i64 ((x:Int)+1)=(y:Int)∧(1:Int)=1∧false=false∧(2:Int)=2∧false=false)∧y≤8∧8 - y<8 - x else budTo s b x=budF s b
theorem vcd83 (s : List Int) (b : Int) : Pd83 s b = vcFun Cd83 (annd83 s b) Go.Proofs.Tryd.f108 [⟨.arr 8 (.int .i64), s⟩, ⟨.int .i64, b⟩] [] (outd83 s b) := by kernel_rfl

noncomputable def Cd48 : Ctx := ⟨Go.Proofs.Tryd.prog, D, Gd83, (fun _ _ => none), fun _ => []⟩
def annd48 (_s : List Int) (_b : Int) : Nat → St → Option Ann := fun _ _ => none
def outd48 (s : List Int) (b : Int) : COut := ⟨[], .v (.int .i64) (movF s b), [], []⟩
def spd48 : Spec := fun args ins => match args, ins with
  | [⟨.arr 8 (.int .i64), s⟩, ⟨.int .i64, b⟩], [] => some (outd48 s b)
  | _, _ => none
def Gd48 := addG Gd83 67 spd48
def Pd48 (s : List Int) (b : Int) : Prop :=
 bif !mayM s b then 0=movF s b else ((0≤b∧b<(↑ (8:Nat):Int))∧b.toNat<8∧0≤List.getD s b.toNat (0:Int))∧ishr .i64 (budF s b) (List.getD s b.toNat (0:Int))=movF s b
theorem vcd48 (s : List Int) (b : Int) : Pd48 s b = vcFun Cd48 (annd48 s b) Go.Proofs.Tryd.f67 [⟨.arr 8 (.int .i64), s⟩, ⟨.int .i64, b⟩] [] (outd48 s b) := by kernel_rfl

noncomputable def Cd31 : Ctx := ⟨Go.Proofs.Tryd.prog, D, Gd48, (fun _ _ => none), fun _ => []⟩
def annd31 (y z : List Int) : Nat → St → Option Ann := fun _ _ => some ⟨Nat, [2, 3], [0, 1], fun i => [(7, .v (.int .i64) (i : Int)), (5, .v (.int .i64) (farM y z i))], fun _ => [], fun i => i ≤ 4, fun i => 4 - i⟩
def outd31 (y z : List Int) : COut := ⟨[smallV y ∧ smallV z], .v (.int .i64) (farM y z 4), [], []⟩
def spd31 : Spec := fun args ins => match args, ins with
  | [⟨.arr 4 (.int .i64), y⟩, ⟨.arr 4 (.int .i64), z⟩], [] => some (outd31 y z)
  | _, _ => none
def Gd31 := addG Gd48 65 spd31
def Pd31 (y z : List Int) : Prop :=
 ∃ (x:Nat),((0=0∧0=0∧0=farM y z x∧0=(x:Int)∧y=y∧false=false∧z=z∧false=false)∧x≤4)∧∀ (x:Nat),x≤4→IntKind.min .i64≤(x:Int)∧(x:Int)≤IntKind.max .i64∧IntKind.min .i64≤farM y z x∧farM y z x≤IntKind.max .i64→bif decide ((x:Int)<4) then ∀ (b:Bool),decide
 (1048576<max (max (max (List.getD y (x:Int).toNat (0:Int)) (IntKind.wrap .i64 (0 - List.getD y (x:Int).toNat (0:Int)))) (List.getD z (x:Int).toNat (0:Int))) (IntKind.wrap .i64 (0 - List.getD z (x:Int).toNat (0:Int))))=b→((0≤(x:Int)∧(x:Int)<(↑
 (4:Nat):Int))∧(x:Int).toNat<4∧(0≤(x:Int)∧(x:Int)<(↑ (4:Nat):Int))∧(x:Int).toNat<4∧(0≤(x:Int)∧(x:Int)<(↑ (4:Nat):Int))∧(x:Int).toNat<4∧(0≤(x:Int)∧(x:Int)<(↑ (4:Nat):Int))∧(x:Int).toNat<4∧((!b)=true→(!b)=true∧0≤(x:Int)∧(x:Int)<(↑ (4:Nat):Int))∧((!b)=true→(!b)=true∧(x:Int).toNat<4)∧((!b)=true→(!b)=true∧0≤(x:Int)∧(x:Int)<(↑
 (4:Nat):Int))∧((!b)=true→(!b)=true∧(x:Int).toNat<4)∧((!b)=true→(!b)=true∧(!b)=true)∧((!b)=true→(!b)=true)∧(b=false→(!b)=true))∧bif bif b then true else decide (min (List.getD y (x:Int).toNat (0:Int)) (List.getD z (x:Int).toNat (0:Int))<(-1048576:Int))
 then (-1:Int)=farM y z (4:Nat) else ((0≤(x:Int)∧(x:Int)<(↑ (4:Nat):Int))∧(x:Int).toNat<4∧(0≤(x:Int)∧(x:Int)<(↑ (4:Nat):Int))∧(x:Int).toNat<4∧(0≤(x:Int)∧(x:Int)<(↑ (4:Nat):Int))∧(x:Int).toNat<4∧(0≤(x:Int)∧(x:Int)<(↑ (4:Nat):Int))∧(x:Int).toNat<4)∧∃
 (y_1:Nat),(0=0∧0=0∧IntKind.wrap .i64 (farM y z x+max (IntKind.wrap .i64 (List.getD y (x:Int).toNat (0:Int) - List.getD z (x:Int).toNat (0:Int))) (IntKind.wrap .i64 (List.getD z (x:Int).toNat (0:Int) - List.getD y (x:Int).toNat (0:Int))))=farM
 y z y_1∧IntKind.wrap .i64 ((x:Int)+1)=(y_1:Int)∧y=y∧false=false∧z=z∧false=false)∧y_1≤4∧4 - y_1<4 - x else farM y z x=farM y z (4:Nat)
theorem vcd31 (y z : List Int) : Pd31 y z = vcFun Cd31 (annd31 y z) Go.Proofs.Tryd.f65 [⟨.arr 4 (.int .i64), y⟩, ⟨.arr 4 (.int .i64), z⟩] [] (outd31 y z) := by kernel_rfl

noncomputable def Cd30 : Ctx := ⟨Go.Proofs.Tryd.prog, D, Gd31, (fun _ _ => none), fun _ => []⟩
def annd30 (_s : List Int) (_b : Int) (_y _z : List Int) : Nat → St → Option Ann := fun _ _ => none
def outd30 (s : List Int) (b : Int) (y z : List Int) : COut := ⟨[smallV y ∧ smallV z], .v .bool (mayV s b y z), [], []⟩
def spd30 : Spec := fun args ins => match args, ins with
  | [⟨.arr 8 (.int .i64), s⟩, ⟨.int .i64, b⟩, ⟨.arr 4 (.int .i64), y⟩, ⟨.arr 4 (.int .i64), z⟩], [] => some (outd30 s b y z)
  | _, _ => none
def Gd30 := addG Gd31 34 spd30
def Pd30 (s : List Int) (b : Int) (y z : List Int) : Prop :=
 (smallV y∧smallV z)∧∀ (b_1:Bool),mayM s b=b_1→bif bif b_1 then decide (0≤farM y z (4:Nat)) else false then ((b_1=true→b_1=true)∧(b_1=true→b_1=true))∧decide (farM y z (4:Nat)≤movF s b)=mayV s b y z else ((b_1=true→b_1=true)∧(b_1=true→b_1=true)∧(false=true→false=true))∧false=mayV
 s b y z
theorem vcd30 (s : List Int) (b : Int) (y z : List Int) : Pd30 s b y z = vcFun Cd30 (annd30 s b y z) Go.Proofs.Tryd.f34 [⟨.arr 8 (.int .i64), s⟩, ⟨.int .i64, b⟩, ⟨.arr 4 (.int .i64), y⟩, ⟨.arr 4 (.int .i64), z⟩] [] (outd30 s b y z) := by kernel_rfl

end Go.SL.A

/- How much may be changed. -/
namespace Go.SL.A
open Go Go.SL Go.SL.S
set_option maxRecDepth 100000

theorem right_get {s : List Int} (h : rightF s = true) (j : Nat) : 0 ≤ s.getD j 0 ∧ s.getD j 0 ≤ 15 := by
  by_cases hj : j < s.length
  · unfold rightF at h
    rw [Bool.not_eq_true', List.any_eq_false] at h
    have := h _ (getD_mem (d := 0) hj)
    unfold badF at this
    simp only [Bool.or_eq_true, decide_eq_true_eq] at this
    omega
  · rw [List.getD_eq_getElem?_getD, List.getElem?_eq_none (by omega)]; simp
theorem mayM_ok {s : List Int} {b : Int} (h : mayM s b = true) : rightF s = true ∧ 0 ≤ b ∧ b < 8 := by
  unfold mayM at h
  rw [Bool.and_eq_true, Bool.and_eq_true, decide_eq_true_eq, decide_eq_true_eq] at h
  exact h
theorem shl4 {t : Int} (h : 0 ≤ t ∧ t ≤ 15) : ishl .i64 4 t = 4 * 2 ^ t.toNat ∧ 0 ≤ (4 : Int) * 2 ^ t.toNat ∧ (4 : Int) * 2 ^ t.toNat ≤ 131072 := by
  obtain ⟨n, rfl⟩ : ∃ n : Nat, t = n := ⟨t.toNat, by omega⟩
  have all : ((List.range 16).all fun n : Nat => decide (ishl .i64 4 (n : Int) = 4 * 2 ^ (n : Int).toNat ∧ 0 ≤ (4 : Int) * 2 ^ (n : Int).toNat ∧ (4 : Int) * 2 ^ (n : Int).toNat ≤ 131072)) = true := by decide +kernel
  exact of_decide_eq_true (List.all_eq_true.1 all n (List.mem_range.2 (by omega)))
theorem ishr_pow {x m : Int} (hm : 0 ≤ m ∧ m ≤ 64) : ishr .i64 x m = x / 2 ^ m.toNat := by
  unfold ishr
  have e : min m.toNat IntKind.i64.bits = m.toNat := by
    have : IntKind.i64.bits = 64 := rfl
    omega
  rw [e, Int.fdiv_eq_ediv_of_nonneg _ (Int.le_of_lt (Int.pow_pos (by decide)))]
theorem st_mul {st n : Int} (hs : 0 ≤ st ∧ st ≤ 2) (hn : 0 ≤ n ∧ n ≤ 8) : 0 ≤ st * n ∧ st * n ≤ 16 := by
  rcases (show st = 0 ∨ st = 1 ∨ st = 2 by omega) with rfl | rfl | rfl <;> omega

theorem pured129 (x n st : Int) (hp : 0 ≤ x ∧ x ≤ 1000000000 ∧ 0 ≤ st ∧ st ≤ 2 ∧ 0 ≤ n ∧ n ≤ 8) : Pd129 x n st := by
  obtain ⟨h1, h2, h3, h4, h5, h6⟩ := hp
  have hm := st_mul ⟨h3, h4⟩ ⟨h5, h6⟩
  unfold Pd129
  rw [w64 (n := st * n) (by omega) (by omega), ishr_pow (by omega)]
  exact ⟨hm.1, rfl, rfl, rfl⟩
theorem pured110 (st : Int) : Pd110 st := by
  unfold Pd110; trivial
theorem pured70 (s : List Int) (b : Int) : Pd70 s b := by
  unfold Pd70
  rintro _ rfl _ rfl
  refine ⟨by cases rightF s <;> simp, ?_⟩
  unfold mayM
  cases rightF s <;> cases decide (0 ≤ b) <;> rfl

theorem hwd83 {s : List Int} {b : Int} (hw : Go.SL.allP (List.flatMap (fun a : AV => a.t.wf a.x) [⟨.arr 8 (.int .i64), s⟩, ⟨.int .i64, b⟩] ++ List.flatMap Blk.wf [])) : s.length = 8 := by
  simp only [List.flatMap_cons, List.flatMap_nil, Ty.wf, List.append_nil, List.cons_append, List.nil_append, Go.SL.allP] at hw
  exact hw.1
theorem pured83 (s : List Int) (b : Int) (_hl : s.length = 8) : Pd83 s b := by
  unfold Pd83
  cases hm : mayM s b with
  | false =>
    rw [Bool.not_false, cond_true]
    unfold budF; rw [hm]; rfl
  | true =>
    obtain ⟨hr, hb0, hb8⟩ := mayM_ok hm
    rw [Bool.not_true, cond_false]
    simp only [eq_self, true_and, and_true, Int.toNat_natCast]
    refine ⟨0, ⟨⟨rfl, rfl⟩, by omega⟩, fun j hj hw => ?_⟩
    clear hw
    by_cases h : (j : Int) < 8
    · have hs := right_get hr j
      obtain ⟨e1, e2, e3⟩ := shl4 hs
      have hst : budTo s b (j + 1) = max (budTo s b j) (budX s b j) := rfl
      rw [decide_eq_true h, cond_true, e1]
      refine ⟨⟨by omega, by omega⟩, hs.1, ?_⟩
      unfold budX at hst
      by_cases h2 : (j : Int) ≤ b
      · rw [if_pos h2] at hst
        rw [decide_eq_true h2, cond_true, w64 (n := b - (j : Int)) (by omega) (by omega)]
        exact ⟨⟨e2, by omega, by omega, by omega, by omega, by omega⟩, j + 1, ⟨hst.symm, step_i (by omega)⟩, by omega, by omega⟩
      · rw [if_neg h2] at hst
        rw [decide_eq_false h2, cond_false, w64 (n := (j : Int) - b) (by omega) (by omega)]
        exact ⟨⟨e2, by omega, by omega, by omega, by omega, by omega⟩, j + 1, ⟨hst.symm, step_i (by omega)⟩, by omega, by omega⟩
    · have : j = 8 := by omega
      subst this
      rw [decide_eq_false h, cond_false]
      unfold budF; rw [hm]; rfl
theorem pured48 (s : List Int) (b : Int) (_hl : s.length = 8) : Pd48 s b := by
  unfold Pd48
  cases hm : mayM s b with
  | false =>
    rw [Bool.not_false, cond_true]
    unfold movF; rw [hm]; rfl
  | true =>
    obtain ⟨hr, hb0, hb8⟩ := mayM_ok hm
    have hs := right_get hr b.toNat
    rw [Bool.not_true, cond_false, ishr_pow (by omega)]
    refine ⟨⟨⟨hb0, by omega⟩, by omega, hs.1⟩, ?_⟩
    unfold movF budF
    rw [hm]; rfl

theorem far_fitM {y z : List Int} (hy : smallV y) (hz : smallV z) : ∀ n, n ≤ 4 → 0 ≤ farM y z n ∧ farM y z n ≤ 2000 * (n : Int)
  | 0, _ => by simp [farM]
  | n + 1, h => by
    have ih := far_fitM hy hz n (by omega)
    have h1 := hy n (by omega)
    have h2 := hz n (by omega)
    rw [farM]
    unfold absZ
    omega
theorem pured31 (y z : List Int) (hp : smallV y ∧ smallV z) : Pd31 y z := by
  obtain ⟨hy, hz⟩ := hp
  unfold Pd31
  simp only [eq_self, true_and, and_true, Int.toNat_natCast]
  refine ⟨0, ⟨⟨rfl, rfl⟩, by omega⟩, fun i hi hw => ?_⟩
  clear hw
  by_cases h : (i : Int) < 4
  · have h1 := hy i (by omega)
    have h2 := hz i (by omega)
    have hf := far_fitM hy hz i hi
    have hst : farM y z (i + 1) = farM y z i + absZ (y.getD i 0 - z.getD i 0) := rfl
    unfold absZ at hst
    rw [decide_eq_true h, cond_true]
    have e1 : IntKind.i64.wrap (0 - y.getD i 0) = 0 - y.getD i 0 := w64 (by omega) (by omega)
    have e2 : IntKind.i64.wrap (0 - z.getD i 0) = 0 - z.getD i 0 := w64 (by omega) (by omega)
    have e3 : IntKind.i64.wrap (y.getD i 0 - z.getD i 0) = y.getD i 0 - z.getD i 0 := w64 (by omega) (by omega)
    have e4 : IntKind.i64.wrap (z.getD i 0 - y.getD i 0) = z.getD i 0 - y.getD i 0 := w64 (by omega) (by omega)
    simp only [e1, e2, e3, e4]
    intro b hb
    have hb : false = b := by rw [← hb]; exact (decide_eq_false (by omega)).symm
    subst hb
    refine ⟨by simp; omega, ?_⟩
    have hm : decide (min (y.getD i 0) (z.getD i 0) < -1048576) = false := decide_eq_false (by omega)
    rw [cond_false, hm, cond_false]
    exact ⟨⟨⟨by omega, by omega⟩, by omega, ⟨by omega, by omega⟩, by omega, ⟨by omega, by omega⟩, by omega, ⟨by omega, by omega⟩, by omega⟩, i + 1, ⟨by rw [w64 (by omega) (by omega)]; omega, step_i (by omega)⟩, by omega, by omega⟩
  · have : i = 4 := by omega
    subst this
    rw [decide_eq_false h, cond_false]
theorem pured30 (s : List Int) (b : Int) (y z : List Int) (hp : smallV y ∧ smallV z) : Pd30 s b y z := by
  unfold Pd30
  have hf := far_fitM hp.1 hp.2 4 (Nat.le_refl _)
  refine ⟨hp, ?_⟩
  rw [decide_eq_true hf.1]
  rintro _ rfl
  unfold mayV
  cases mayM s b <;> simp
end Go.SL.A

/- Functions do what they are held to do. -/
namespace Go.SL.A
open Go Go.SL Go.SL.S
theorem sndd129 : Sound Go.Proofs.Tryd.prog Gd129 := snd62.add ⟨_, Go.Proofs.Tryd.func159, by kernel_rfl, by kernel_rfl⟩ (by
  intro args ins out h hp
  unfold spd129 at h
  split at h
  · rename_i x n st
    cases h
    exact vcFun_ok (C := Cd129) good snd62 Meth.none mix Go.Proofs.Tryd.func159 (annd129 x n st) (fun hw => by rw [← vcd129 x n st]; exact pured129 x n st hp)
  · cases h)

theorem sndd110 : Sound Go.Proofs.Tryd.prog Gd110 := sndd129.add ⟨_, Go.Proofs.Tryd.func139, by kernel_rfl, by kernel_rfl⟩ (by
  intro args ins out h hp
  unfold spd110 at h
  split at h
  · rename_i st
    cases h
    exact vcFun_ok (C := Cd110) good sndd129 Meth.none mix Go.Proofs.Tryd.func139 (annd110 st) (fun hw => by rw [← vcd110 st]; exact pured110 st)
  · cases h)

theorem sndd70 : Sound Go.Proofs.Tryd.prog Gd70 := sndd110.add ⟨_, Go.Proofs.Tryd.func66, by kernel_rfl, by kernel_rfl⟩ (by
  intro args ins out h hp
  unfold spd70 at h
  split at h
  · rename_i s b
    cases h
    exact vcFun_ok (C := Cd70) good sndd110 Meth.none mix Go.Proofs.Tryd.func66 (annd70 s b) (fun hw => by rw [← vcd70 s b]; exact pured70 s b)
  · cases h)

theorem sndd83 : Sound Go.Proofs.Tryd.prog Gd83 := sndd70.add ⟨_, Go.Proofs.Tryd.func108, by kernel_rfl, by kernel_rfl⟩ (by
  intro args ins out h hp
  unfold spd83 at h
  split at h
  · rename_i s b
    cases h
    exact vcFun_ok (C := Cd83) good sndd70 Meth.none mix Go.Proofs.Tryd.func108 (annd83 s b) (fun hw => by rw [← vcd83 s b]; exact pured83 s b (hwd83 hw))
  · cases h)

theorem sndd48 : Sound Go.Proofs.Tryd.prog Gd48 := sndd83.add ⟨_, Go.Proofs.Tryd.func67, by kernel_rfl, by kernel_rfl⟩ (by
  intro args ins out h hp
  unfold spd48 at h
  split at h
  · rename_i s b
    cases h
    exact vcFun_ok (C := Cd48) good sndd83 Meth.none mix Go.Proofs.Tryd.func67 (annd48 s b) (fun hw => by rw [← vcd48 s b]; exact pured48 s b (hwd83 hw))
  · cases h)

theorem sndd31 : Sound Go.Proofs.Tryd.prog Gd31 := sndd48.add ⟨_, Go.Proofs.Tryd.func65, by kernel_rfl, by kernel_rfl⟩ (by
  intro args ins out h hp
  unfold spd31 at h
  split at h
  · rename_i y z
    cases h
    exact vcFun_ok (C := Cd31) good sndd48 Meth.none mix Go.Proofs.Tryd.func65 (annd31 y z) (fun hw => by rw [← vcd31 y z]; exact pured31 y z hp)
  · cases h)

theorem sndd30 : Sound Go.Proofs.Tryd.prog Gd30 := sndd31.add ⟨_, Go.Proofs.Tryd.func34, by kernel_rfl, by kernel_rfl⟩ (by
  intro args ins out h hp
  unfold spd30 at h
  split at h
  · rename_i s b y z
    cases h
    exact vcFun_ok (C := Cd30) good sndd31 Meth.none mix Go.Proofs.Tryd.func34 (annd30 s b y z) (fun hw => by rw [← vcd30 s b y z]; exact pured30 s b y z hp)
  · cases h)

end Go.SL.A

/- A frame's bit in its band: plain functions. -/
namespace Go.SL.S
open Go Go.SL
abbrev SHM : Type := List Int × List (List Int)
abbrev SR : Type := List Int × List Int × Int × List Int × Int
def okN (n : Int) : Bool := !(decide (n < -12) || decide (12 < n))
def okRow (y : List Int) : Bool := y.all okN
def heldB (Y : List (List Int)) : Bool := Y.all okRow
def rowZ (Y : List (List Int)) (b : Int) : List Int := Y.getD b.toNat (List.replicate 4 0)
def corrF (k : List Int) (f : Int) (s : SHM) : Int := if heldB s.2 then dotZ (rowZ s.2 (bandK k f)) (chipsK k f) 4 else 0
def spkF (c : Int) : Int := if 2 ≤ c then 1 else if c ≤ -2 then -1 else 0
def betF (x : SR) (z : List Int) : Bool := decide (2 ≤ dotZ z x.2.1 4) && (decide (farM x.1 z 4 ≤ x.2.2.1) && (decide (x.2.2.2.2 < 0) || decide (farM x.1 z 4 < x.2.2.2.2)))
def lookF (x : SR) (z : List Int) : SR := if betF x z then (x.1, x.2.1, x.2.2.1, z, farM x.1 z 4) else x
abbrev ES : Type := List Int × SR
def leafF (i left : Int) (st : ES) : ES :=
  if 0 < left then (List.set (List.set st.1 i.toNat left) i.toNat (-left), lookF (lookF st.2 (List.set st.1 i.toNat left)) (List.set (List.set st.1 i.toNat left) i.toNat (-left)))
  else (List.set st.1 i.toNat left, lookF st.2 (List.set st.1 i.toNat left))
def posF (f : Int → ES → ES) (i left : Int) (j : Nat) (st : ES) : ES := f (left - (j : Int)) (List.set st.1 i.toNat (j : Int), st.2)
def negF (f : Int → ES → ES) (i left : Int) (j : Nat) (st : ES) : ES := if 0 < (j : Int) then f (left - (j : Int)) (List.set st.1 i.toNat (-(j : Int)), st.2) else st
def goF (f : Int → ES → ES) (i left : Int) (st : ES) : Nat → ES
  | 0 => st
  | j + 1 => negF f i left j (posF f i left j (goF f i left st j))
def eachF : Nat → Int → Int → ES → ES
  | 0, i, left, st => leafF i left st
  | n + 1, i, left, st => goF (eachF n (i + 1)) i left st (left + 1).toNat
end Go.SL.S

/- Functions and what they are held to do: bound to their code. -/
namespace Go.SL.A
open Go Go.SL Go.SL.S
set_option maxRecDepth 100000
noncomputable def Cd46 : Ctx := ⟨Go.Proofs.Tryd.prog, D, Gd30, (fun _ _ => none), fun _ => []⟩
def annd46 (s : List Int × List (List Int)) : Nat → St → Option Ann := fun id S => match id with | 0 => some ⟨Nat, [8], [], fun i => [(9, .v (.int .i64) (i : Int))], fun _ => [], fun i => i ≤ 8 ∧ heldB (s.2.take i) = true, fun i => 8 - i⟩ | _ => some ⟨Nat, [8, 9, 12], [], fun j => [(13, .v (.int .i64) (j : Int))], fun _ => [], fun j => j ≤ 4 ∧ okRow ((List.getD s.2 (S.i 9).toNat (List.replicate 4 0)).take j) = true, fun j => 4 - j⟩
def outd46 (s : List Int × List (List Int)) : COut := ⟨[], .v .bool (heldB s.2), [], []⟩
def spd46 : Spec := fun args ins => match args, ins with
  | [⟨(.cons (.arr 8 (.int .i64)) (.last (.arr 8 (.arr 4 (.int .i64))))), s⟩], [] => some (outd46 s)
  | _, _ => none
def Gd46 := addG Gd30 157 spd46
def Pd46 (s : List Int × List (List Int)) : Prop :=
 ∃ (x:Nat),((s.2=s.2∧0=(x:Int))∧x≤8∧heldB (List.take x s.2)=true)∧∀ (x:Nat),x≤8∧heldB (List.take x s.2)=true→IntKind.min .i64≤(x:Int)∧(x:Int)≤IntKind.max .i64→bif decide ((x:Int)<8) then (0≤(x:Int)∧(x:Int)<(↑ (8:Nat):Int))∧∃ (x_1:Nat),((s.2=s.2∧(x:Int)=(x:Int)∧List.getD
 s.2 (x:Int).toNat (List.replicate 4 (0:Int))=List.getD s.2 (x:Int).toNat (List.replicate 4 (0:Int))∧0=(x_1:Int))∧x_1≤4∧okRow (List.take x_1 (List.getD s.2 (x:Int).toNat (List.replicate 4 (0:Int))))=true)∧∀ (x_2:Nat),x_2≤4∧okRow (List.take
 x_2 (List.getD s.2 (x:Int).toNat (List.replicate 4 (0:Int))))=true→IntKind.min .i64≤(x_2:Int)∧(x_2:Int)≤IntKind.max .i64→bif decide ((x_2:Int)<4) then (0≤(x_2:Int)∧(x_2:Int)<(↑ (4:Nat):Int))∧∀ (b:Bool),decide (List.getD (List.getD s.2
 (x:Int).toNat (List.replicate 4 (0:Int))) (x_2:Int).toNat (0:Int)<(-12:Int))=b→(((!b)=true→(!b)=true)∧(b=false→(!b)=true))∧bif bif b then true else decide (12<List.getD (List.getD s.2 (x:Int).toNat (List.replicate 4 (0:Int))) (x_2:Int).toNat
 (0:Int)) then false=heldB s.2 else ∃ (y:Nat),(s.2=s.2∧(x:Int)=(x:Int)∧List.getD s.2 (x:Int).toNat (List.replicate 4 (0:Int))=List.getD s.2 (x:Int).toNat (List.replicate 4 (0:Int))∧IntKind.wrap .i64 ((x_2:Int)+1)=(y:Int))∧(y≤4∧okRow
 (List.take y (List.getD s.2 (x:Int).toNat (List.replicate 4 (0:Int))))=true)∧4 - y<4 - x_2 else ∃ (y:Nat),(s.2=s.2∧IntKind.wrap .i64 ((x:Int)+1)=(y:Int))∧(y≤8∧heldB (List.take y s.2)=true)∧8 - y<8 - x else true=heldB s.2
theorem vcd46 (s : List Int × List (List Int)) : Pd46 s = vcFun Cd46 (annd46 s) Go.Proofs.Tryd.f157 [⟨(.cons (.arr 8 (.int .i64)) (.last (.arr 8 (.arr 4 (.int .i64))))), s⟩] [] (outd46 s) := by kernel_rfl

noncomputable def Cd49 : Ctx := ⟨Go.Proofs.Tryd.prog, D, Gd46, (fun _ _ => none), fun _ => []⟩
def annd49 (y c : List Int) : Nat → St → Option Ann := fun _ _ => some ⟨Nat, [2, 8], [0], fun i => [(9, .v (.int .i64) (i : Int)), (5, .v (.int .i64) (dotZ y c i))], fun _ => [], fun i => i ≤ 4, fun i => 4 - i⟩
def outd49 (y c : List Int) : COut := ⟨[smallV y ∧ smallV c], .v (.int .i64) (dotZ y c 4), [], []⟩
def spd49 : Spec := fun args ins => match args, ins with
  | [⟨.arr 4 (.int .i64), y⟩, ⟨.arr 4 (.int .i64), c⟩], [] => some (outd49 y c)
  | _, _ => none
def Gd49 := addG Gd46 158 spd49
def Pd49 (y c : List Int) : Prop :=
 ∃ (x:Nat),((0=0∧0=dotZ y c x∧c=c∧0=(x:Int)∧y=y∧false=false)∧x≤4)∧∀ (x:Nat),x≤4→IntKind.min .i64≤(x:Int)∧(x:Int)≤IntKind.max .i64∧IntKind.min .i64≤dotZ y c x∧dotZ y c x≤IntKind.max .i64→bif decide ((x:Int)<4) then (0≤(x:Int)∧(x:Int)<(↑
 (4:Nat):Int))∧((0≤(x:Int)∧(x:Int)<(↑ (4:Nat):Int))∧(x:Int).toNat<4)∧∃ (y_1:Nat),(0=0∧IntKind.wrap .i64 (dotZ y c x+IntKind.wrap .i64 (List.getD c (x:Int).toNat (0:Int) * List.getD y (x:Int).toNat (0:Int)))=dotZ y c y_1∧c=c∧IntKind.wrap
 .i64 ((x:Int)+1)=(y_1:Int)∧y=y∧false=false)∧y_1≤4∧4 - y_1<4 - x else dotZ y c x=dotZ y c (4:Nat)
theorem vcd49 (y c : List Int) : Pd49 y c = vcFun Cd49 (annd49 y c) Go.Proofs.Tryd.f158 [⟨.arr 4 (.int .i64), y⟩, ⟨.arr 4 (.int .i64), c⟩] [] (outd49 y c) := by kernel_rfl

noncomputable def Cd16 : Ctx := ⟨Go.Proofs.Tryd.prog, D, Gd49, (fun _ _ => none), fun r => match Nat.beq r 3 with | true => [2, 8] | false => []⟩
def annd16 (_k : List Int) (_f : Int) (_s : List Int × List (List Int)) : Nat → St → Option Ann := fun _ _ => none
def outd16 (k : List Int) (f : Int) (s : List Int × List (List Int)) : COut := ⟨[], .v (.int .i64) (corrF k f s), [], []⟩
def spd16 : Spec := fun args ins => match args, ins with
  | [⟨.arr 16 (.int .u8), k⟩, ⟨.int .i64, f⟩, ⟨(.cons (.arr 8 (.int .i64)) (.last (.arr 8 (.arr 4 (.int .i64))))), s⟩], [] => some (outd16 k f s)
  | _, _ => none
def Gd16 := addG Gd49 134 spd16
def Pd16 (k : List Int) (f : Int) (s : List Int × List (List Int)) : Prop :=
 bif !heldB s.2 then 0=corrF k f s else ∀ (n:Int),bandK k f=n→((0≤n∧n<(↑ (8:Nat):Int))∧n.toNat<8∧smallV (List.getD s.2 n.toNat (List.replicate 4 (0:Int)))∧smallV (chipsK k f))∧dotZ (List.getD s.2 n.toNat (List.replicate 4 (0:Int))) (chipsK
 k f) (4:Nat)=corrF k f s
theorem vcd16 (k : List Int) (f : Int) (s : List Int × List (List Int)) : Pd16 k f s = vcFun Cd16 (annd16 k f s) Go.Proofs.Tryd.f134 [⟨.arr 16 (.int .u8), k⟩, ⟨.int .i64, f⟩, ⟨(.cons (.arr 8 (.int .i64)) (.last (.arr 8 (.arr 4 (.int .i64))))), s⟩] [] (outd16 k f s) := by kernel_rfl

noncomputable def Cd17 : Ctx := ⟨Go.Proofs.Tryd.prog, D, Gd16, (fun _ _ => none), fun _ => []⟩
def annd17 (_k : List Int) (_f : Int) (_s : List Int × List (List Int)) : Nat → St → Option Ann := fun _ _ => none
def outd17 (k : List Int) (f : Int) (s : List Int × List (List Int)) : COut := ⟨[], .v (.int .i64) (spkF (corrF k f s)), [], []⟩
def spd17 : Spec := fun args ins => match args, ins with
  | [⟨.arr 16 (.int .u8), k⟩, ⟨.int .i64, f⟩, ⟨(.cons (.arr 8 (.int .i64)) (.last (.arr 8 (.arr 4 (.int .i64))))), s⟩], [] => some (outd17 k f s)
  | _, _ => none
def Gd17 := addG Gd16 97 spd17
def Pd17 (k : List Int) (f : Int) (s : List Int × List (List Int)) : Prop :=
 bif decide (2≤corrF k f (s.1,s.2)) then 1=spkF (corrF k f s) else bif decide (corrF k f (s.1,s.2)≤(-2:Int)) then (-1:Int)=spkF (corrF k f s) else 0=spkF (corrF k f s)
theorem vcd17 (k : List Int) (f : Int) (s : List Int × List (List Int)) : Pd17 k f s = vcFun Cd17 (annd17 k f s) Go.Proofs.Tryd.f97 [⟨.arr 16 (.int .u8), k⟩, ⟨.int .i64, f⟩, ⟨(.cons (.arr 8 (.int .i64)) (.last (.arr 8 (.arr 4 (.int .i64))))), s⟩] [] (outd17 k f s) := by kernel_rfl

end Go.SL.A

/- A frame's bit in its band: correlations. -/
namespace Go.SL.A
open Go Go.SL Go.SL.S
set_option maxRecDepth 100000

theorem hwd46 {s : List Int × List (List Int)} (hw : Go.SL.allP (List.flatMap (fun a : AV => a.t.wf a.x) [⟨(.cons (.arr 8 (.int .i64)) (.last (.arr 8 (.arr 4 (.int .i64))))), s⟩] ++ List.flatMap Blk.wf [])) : s.1.length = 8 ∧ s.2.length = 8 ∧ ∀ y ∈ s.2, y.length = 4 := by
  simp only [List.flatMap_cons, List.flatMap_nil, Ty.wf, List.append_nil, List.cons_append, List.nil_append, Go.SL.allP] at hw
  exact ⟨hw.1, hw.2.2.1, fun y hy => (hw.2.2.2 y hy).1⟩
theorem hwd16 {k : List Int} {f : Int} {s : List Int × List (List Int)} (hw : Go.SL.allP (List.flatMap (fun a : AV => a.t.wf a.x) [⟨.arr 16 (.int .u8), k⟩, ⟨.int .i64, f⟩, ⟨(.cons (.arr 8 (.int .i64)) (.last (.arr 8 (.arr 4 (.int .i64))))), s⟩] ++ List.flatMap Blk.wf [])) : s.1.length = 8 ∧ s.2.length = 8 ∧ ∀ y ∈ s.2, y.length = 4 := by
  simp only [List.flatMap_cons, List.flatMap_nil, Ty.wf, List.append_nil, List.cons_append, List.nil_append, Go.SL.allP] at hw
  exact ⟨hw.2.2.2.2.1, hw.2.2.2.2.2.2.1, fun y hy => (hw.2.2.2.2.2.2.2 y hy).1⟩

theorem all_step {α : Type} (p : α → Bool) (d : α) {l : List α} {i : Nat} (hi : i < l.length) : (l.take (i + 1)).all p = ((l.take i).all p && p (l.getD i d)) := by
  rw [take_snoc' d hi, List.all_append]; simp
theorem all_get {α : Type} {p : α → Bool} {d : α} {l : List α} {i : Nat} (hi : i < l.length) (h : l.all p = true) : p (l.getD i d) = true := List.all_eq_true.1 h _ (getD_mem hi)
theorem okN_iff {n : Int} : okN n = true ↔ -12 ≤ n ∧ n ≤ 12 := by
  unfold okN
  rw [Bool.not_eq_true', Bool.or_eq_false_iff, decide_eq_false_iff_not, decide_eq_false_iff_not]
  omega

theorem pured46 (s : List Int × List (List Int)) (hl : s.1.length = 8 ∧ s.2.length = 8 ∧ ∀ y ∈ s.2, y.length = 4) : Pd46 s := by
  obtain ⟨-, l8, l4⟩ := hl
  unfold Pd46
  simp only [eq_self, true_and, Int.toNat_natCast]
  refine ⟨0, ⟨rfl, by omega, rfl⟩, fun i hi hw => ?_⟩
  clear hw
  obtain ⟨hi, ho⟩ := hi
  by_cases h : (i : Int) < 8
  · have hi2 : i < s.2.length := by omega
    have hr := l4 _ (getD_mem (d := List.replicate 4 0) hi2)
    have hst := all_step okRow (List.replicate 4 0) hi2
    have hbad : okRow (s.2.getD i (List.replicate 4 0)) = false → heldB s.2 = false := fun hb => by
      cases hh : heldB s.2 with
      | false => rfl
      | true =>
        have := all_get (d := List.replicate 4 0) hi2 hh
        rw [hb] at this; cases this
    rw [decide_eq_true h, cond_true]
    refine ⟨⟨by omega, by omega⟩, 0, ⟨rfl, by omega, rfl⟩, fun j hj hw => ?_⟩
    clear hw
    obtain ⟨hj, hoj⟩ := hj
    by_cases h2 : (j : Int) < 4
    · have hj2 : j < (s.2.getD i (List.replicate 4 0)).length := by omega
      have hsj := all_step okN (0 : Int) hj2
      have hbj : okN ((s.2.getD i (List.replicate 4 0)).getD j 0) = false → okRow (s.2.getD i (List.replicate 4 0)) = false := fun hb => by
        cases hh : okRow (s.2.getD i (List.replicate 4 0)) with
        | false => rfl
        | true =>
          have := all_get (d := (0 : Int)) hj2 hh
          rw [hb] at this; cases this
      rw [decide_eq_true h2, cond_true]
      refine ⟨⟨by omega, by omega⟩, ?_⟩
      intro b hb
      have hok : okN ((s.2.getD i (List.replicate 4 0)).getD j 0) = !(b || decide (12 < (s.2.getD i (List.replicate 4 0)).getD j 0)) := by unfold okN; rw [hb]
      refine ⟨by cases b <;> simp, ?_⟩
      cases hc : (bif b then true else decide (12 < (s.2.getD i (List.replicate 4 0)).getD j 0)) with
      | true =>
        rw [cond_true]
        refine (hbad (hbj ?_)).symm
        rw [hok]
        cases b with
        | true => rfl
        | false => rw [cond_false] at hc; rw [hc]; rfl
      | false =>
        rw [cond_false]
        refine ⟨j + 1, step_i (by omega), ⟨by omega, ?_⟩, by omega⟩
        show ((s.2.getD i (List.replicate 4 0)).take (j + 1)).all okN = true
        have hoj : ((s.2.getD i (List.replicate 4 0)).take j).all okN = true := hoj
        rw [hsj, hoj, hok]
        cases b with
        | true => cases hc
        | false => rw [cond_false] at hc; rw [hc]; rfl
    · have : j = 4 := by omega
      subst this
      rw [decide_eq_false h2, cond_false]
      refine ⟨i + 1, step_i (by omega), ⟨by omega, ?_⟩, by omega⟩
      show (s.2.take (i + 1)).all okRow = true
      have ho : (s.2.take i).all okRow = true := ho
      have hoj : okRow ((s.2.getD i (List.replicate 4 0)).take 4) = true := hoj
      rw [List.take_of_length_le (by omega)] at hoj
      rw [hst, ho, hoj]; rfl
  · have : i = 8 := by omega
    subst this
    rw [decide_eq_false h, cond_false]
    rw [List.take_of_length_le (by omega)] at ho
    exact ho.symm

theorem prod_fit {a b : Int} (h1 : -1000 ≤ a ∧ a ≤ 1000) (h2 : -1000 ≤ b ∧ b ≤ 1000) : -1000000 ≤ a * b ∧ a * b ≤ 1000000 := by
  have e : (a * b).natAbs = a.natAbs * b.natAbs := Int.natAbs_mul a b
  have : a.natAbs * b.natAbs ≤ 1000 * 1000 := Nat.mul_le_mul (by omega) (by omega)
  omega
theorem dot_fit {y c : List Int} (hy : smallV y) (hc : smallV c) : ∀ n : Nat, n ≤ 4 → -1000000 * (n : Int) ≤ dotZ y c n ∧ dotZ y c n ≤ 1000000 * (n : Int)
  | 0, _ => by simp [dotZ]
  | n + 1, h => by
    have ih := dot_fit hy hc n (by omega)
    have h1 := hy n (by omega)
    have h2 := hc n (by omega)
    rw [dotZ]
    have h3 := prod_fit h1 h2
    omega
theorem pured49 (y c : List Int) (hp : smallV y ∧ smallV c) : Pd49 y c := by
  obtain ⟨hy, hc⟩ := hp
  unfold Pd49
  simp only [eq_self, true_and, and_true, Int.toNat_natCast]
  refine ⟨0, ⟨⟨rfl, rfl⟩, by omega⟩, fun i hi hw => ?_⟩
  clear hw
  by_cases h : (i : Int) < 4
  · have h1 := hy i (by omega)
    have h2 := hc i (by omega)
    have h3 := prod_fit h1 h2
    have hf := dot_fit hy hc i hi
    have hst : dotZ y c (i + 1) = dotZ y c i + y.getD i 0 * c.getD i 0 := rfl
    rw [decide_eq_true h, cond_true, Int.mul_comm (c.getD i 0), w64 (n := y.getD i 0 * c.getD i 0) (by omega) (by omega), w64 (by omega) (by omega)]
    exact ⟨⟨by omega, by omega⟩, ⟨⟨by omega, by omega⟩, by omega⟩, i + 1, ⟨hst.symm, step_i (by omega)⟩, by omega, by omega⟩
  · have : i = 4 := by omega
    subst this
    rw [decide_eq_false h, cond_false]

theorem ord_perm (k : List Int) (s : Int) {n : Nat} (hn : 0 < n) (m : Nat) : m ≤ n - 1 → (ordTo k s n m).Perm (iotaI n) := by
  induction m with
  | zero => intro _; exact List.Perm.refl _
  | succ m ih =>
    intro hm
    have ih := ih (by omega)
    have hl := ord_len k s n m
    have r2 := Int.emod_lt_of_pos (numK k s ((n - 1 - m : Nat) : Int)) (b := ((n - m : Nat) : Int)) (by omega)
    have r1 := Int.emod_nonneg (numK k s ((n - 1 - m : Nat) : Int)) (b := ((n - m : Nat) : Int)) (by omega)
    exact (swapL_perm (0 : Int) (l := ordTo k s n m) (i := n - 1 - m) (j := (numK k s ((n - 1 - m : Nat) : Int) % ((n - m : Nat) : Int)).toNat) (by omega) (by omega)).trans ih
theorem band_fit (k : List Int) (f : Int) : 0 ≤ bandK k f ∧ bandK k f < 8 := by
  unfold bandK
  have hp := ord_perm k (128 + f % 1016 / 8) (n := 8) (by omega) 7 (by omega)
  have hl : (ordK k (128 + f % 1016 / 8) 8).length = 8 := ordK_len _ _ _
  have hm := hp.mem_iff.1 (getD_mem (d := 0) (f := ordK k (128 + f % 1016 / 8) 8) (k := (f % 1016 % 8).toNat) (by omega))
  unfold iotaI at hm
  obtain ⟨i, hi, e⟩ := List.mem_map.1 hm
  have := List.mem_range.1 hi
  omega
theorem chipK_small (x : Int) : smallV (chipK x) := by
  intro i hi
  have h := chipK_at x hi
  rw [List.getD_eq_getElem?_getD, h, Option.getD_some]
  split <;> omega
theorem chip_small (k : List Int) (f : Int) : smallV (chipsK k f) := by
  unfold chipsK
  exact chipK_small _
theorem row_small {y : List Int} (h : okRow y = true) : ∀ i, -12 ≤ y.getD i 0 ∧ y.getD i 0 ≤ 12 := by
  intro i
  by_cases hi : i < y.length
  · exact okN_iff.1 (all_get hi h)
  · rw [List.getD_eq_getElem?_getD, List.getElem?_eq_none (by omega)]; simp
theorem held_row {Y : List (List Int)} (hl : Y.length = 8) (h : heldB Y = true) {b : Int} (hb : 0 ≤ b ∧ b < 8) : okRow (rowZ Y b) = true := all_get (by omega) h
theorem small_of {y : List Int} (h : okRow y = true) : smallV y := fun i _ => by have := row_small h i; omega
theorem pured16 (k : List Int) (f : Int) (s : List Int × List (List Int)) (hl : s.1.length = 8 ∧ s.2.length = 8 ∧ ∀ y ∈ s.2, y.length = 4) : Pd16 k f s := by
  unfold Pd16 corrF rowZ
  have hb := band_fit k f
  have hc := chip_small k f
  generalize bandK k f = b at *
  generalize chipsK k f = c at *
  cases hh : heldB s.2 with
  | false =>
    rw [Bool.not_false, cond_true, if_neg (by simp)]
  | true =>
    rw [Bool.not_true, cond_false, if_pos rfl]
    have hr := small_of (held_row hl.2.1 hh hb)
    unfold rowZ at hr
    rintro n rfl
    exact ⟨⟨⟨hb.1, by omega⟩, by omega, hr, hc⟩, rfl⟩
theorem pured17 (k : List Int) (f : Int) (s : List Int × List (List Int)) : Pd17 k f s := by
  unfold Pd17
  have e : (s.1, s.2) = s := rfl
  rw [e]
  generalize corrF k f s = c
  unfold spkF
  by_cases h : 2 ≤ c
  · rw [decide_eq_true h, cond_true, if_pos h]
  · rw [decide_eq_false h, cond_false, if_neg h]
    by_cases h2 : c ≤ -2
    · rw [decide_eq_true h2, cond_true, if_pos h2]
    · rw [decide_eq_false h2, cond_false, if_neg h2]

end Go.SL.A

/- Functions do what they are held to do. -/
namespace Go.SL.A
open Go Go.SL Go.SL.S
theorem sndd46 : Sound Go.Proofs.Tryd.prog Gd46 := sndd30.add ⟨_, Go.Proofs.Tryd.func157, by kernel_rfl, by kernel_rfl⟩ (by
  intro args ins out h hp
  unfold spd46 at h
  split at h
  · rename_i s
    cases h
    exact vcFun_ok (C := Cd46) good sndd30 Meth.none mix Go.Proofs.Tryd.func157 (annd46 s) (fun hw => by rw [← vcd46 s]; exact pured46 s (hwd46 hw))
  · cases h)

theorem sndd49 : Sound Go.Proofs.Tryd.prog Gd49 := sndd46.add ⟨_, Go.Proofs.Tryd.func158, by kernel_rfl, by kernel_rfl⟩ (by
  intro args ins out h hp
  unfold spd49 at h
  split at h
  · rename_i y c
    cases h
    exact vcFun_ok (C := Cd49) good sndd46 Meth.none mix Go.Proofs.Tryd.func158 (annd49 y c) (fun hw => by rw [← vcd49 y c]; exact pured49 y c hp)
  · cases h)

theorem sndd16 : Sound Go.Proofs.Tryd.prog Gd16 := sndd49.add ⟨_, Go.Proofs.Tryd.func134, by kernel_rfl, by kernel_rfl⟩ (by
  intro args ins out h hp
  unfold spd16 at h
  split at h
  · rename_i k f s
    cases h
    exact vcFun_ok (C := Cd16) good sndd49 Meth.none mix Go.Proofs.Tryd.func134 (annd16 k f s) (fun hw => by rw [← vcd16 k f s]; exact pured16 k f s (hwd16 hw))
  · cases h)

theorem sndd17 : Sound Go.Proofs.Tryd.prog Gd17 := sndd16.add ⟨_, Go.Proofs.Tryd.func97, by kernel_rfl, by kernel_rfl⟩ (by
  intro args ins out h hp
  unfold spd17 at h
  split at h
  · rename_i k f s
    cases h
    exact vcFun_ok (C := Cd17) good sndd16 Meth.none mix Go.Proofs.Tryd.func97 (annd17 k f s) (fun hw => by rw [← vcd17 k f s]; exact pured17 k f s)
  · cases h)

end Go.SL.A

/- Nothing is needed here. -/
namespace Go.SL.A
end Go.SL.A

/- Functions and what they are held to do: bound to their code. -/
namespace Go.SL.A
open Go Go.SL Go.SL.S
set_option maxRecDepth 100000
end Go.SL.A

/- All vectors of four with so many pulses are looked at. -/
namespace Go.SL.A
open Go Go.SL Go.SL.S
set_option maxRecDepth 100000

structure OKS (st : ES) : Prop where
  l : st.1.length = 4
  y : smallV st.1
  a : smallV st.2.1
  c : smallV st.2.2.1

theorem look_keep (x : S.SR) (z : List Int) : (lookF x z).1 = x.1 ∧ (lookF x z).2.1 = x.2.1 := by
  unfold lookF; split <;> exact ⟨rfl, rfl⟩
theorem OKS.set {st : ES} (h : OKS st) (i : Int) {v : Int} (hv : -12 ≤ v ∧ v ≤ 12) : OKS (List.set st.1 i.toNat v, st.2) :=
  ⟨by rw [List.length_set]; exact h.l, fun k hk => by
    rw [List.getD_eq_getElem?_getD, List.getElem?_set]
    split
    · split
      · rw [Option.getD_some]; omega
      · rw [Option.getD_none]; omega
    · rw [← List.getD_eq_getElem?_getD]; exact h.y k hk, h.a, h.c⟩
theorem OKS.look {st : ES} (h : OKS st) (z : List Int) : OKS (st.1, lookF st.2 z) :=
  ⟨h.l, h.y, by rw [(look_keep st.2 z).1]; exact h.a, by rw [(look_keep st.2 z).2]; exact h.c⟩
end Go.SL.A

/- Functions do what they are held to do. -/
namespace Go.SL.A
open Go Go.SL Go.SL.S
end Go.SL.A

/- A frame's bit in its band, and what the document says of it: plain functions. -/
namespace Go.SL.S
open Go Go.SL
def negC (c : List Int) : List Int := c.map fun x => -x
def chipB (bit : Bool) (c : List Int) : List Int := if bit then negC c else c
def srch (y c : List Int) (m n : Int) : SR := (eachF 3 0 n (List.replicate 4 0, (y, c, m, List.replicate 4 0, -1))).2
def putR (y c : List Int) (m n : Int) (s : SHM) (b : Nat) : SHM × Bool :=
  if (decide (2 ≤ dotZ y c 4) || (decide (m = 0) || decide (12 < n))) = true then (s, decide (2 ≤ dotZ y c 4))
  else if (srch y c m n).2.2.2.2 < 0 then (s, false) else ((s.1, List.set s.2 b (srch y c m n).2.2.2.1), true)
def putM (k : List Int) (f : Int) (bit : Bool) (s : SHM) : SHM × Bool :=
  if heldB s.2 then putR (rowZ s.2 (bandK k f)) (chipB bit (chipsK k f)) (movF s.1 (bandK k f)) (pulsesF (rowZ s.2 (bandK k f))) s (bandK k f).toNat else (s, false)
abbrev RS : Type := Bool × Int × List Int
def refOne (y c : List Int) (g room : Int) (x : RS) (z : List Int) : RS :=
  if (decide (2 ≤ dotZ z c 4) && (decide (farM y z 4 * g ≤ room) && (!x.1 || decide (farM y z 4 < x.2.1)))) = true then (true, farM y z 4, z) else x
end Go.SL.S

/- Functions and what they are held to do: bound to their code. -/
namespace Go.SL.A
open Go Go.SL Go.SL.S
set_option maxRecDepth 100000
end Go.SL.A

/- What the document says of a frame's bit: its parts. -/
namespace Go.SL.A
open Go Go.SL Go.SL.S
set_option maxRecDepth 100000

theorem sumSz_app : ∀ a b : List Int, sumSz (a ++ b) = sumSz a + sumSz b
  | [], b => by simp [sumSz]
  | x :: a, b => by rw [List.cons_append, sumSz, sumSz, sumSz_app a b, Int.add_assoc]
theorem sz13_pos (x : Int) : 0 ≤ sz13 x ∧ sz13 x ≤ 13 := by unfold sz13; split <;> omega
theorem sumSz_fit : ∀ l : List Int, 0 ≤ sumSz l ∧ sumSz l ≤ 13 * l.length
  | [] => by simp [sumSz]
  | x :: l => by
    have := sumSz_fit l
    have := sz13_pos x
    rw [sumSz, List.length_cons]; omega
end Go.SL.A

/- Functions do what they are held to do. -/
namespace Go.SL.A
open Go Go.SL Go.SL.S
end Go.SL.A

/- Functions and what they are held to do: bound to their code. -/
namespace Go.SL.A
open Go Go.SL Go.SL.S
set_option maxRecDepth 100000
end Go.SL.A

/- A bit put into its band: the code and the document. -/
namespace Go.SL.A
open Go Go.SL Go.SL.S
set_option maxRecDepth 100000

theorem nums_fit {K : Nat} (hK : K ≤ 12) {x : Int} (h : x ∈ numsF K) : 0 ≤ sz13 x ∧ sz13 x ≤ K := ⟨(nums_sz hK h).2.1, (nums_sz hK h).2.2⟩
theorem mem_allV : ∀ {n K : Nat} {z : List Int}, K ≤ 12 → (z ∈ allV n K ↔ z.length = n ∧ sumSz z = (K : Int))
  | 0, K, z, _ => by
    rw [allV]
    split
    · next h =>
      subst h
      rw [List.mem_singleton]
      constructor
      · rintro rfl; exact ⟨rfl, rfl⟩
      · rintro ⟨h1, -⟩; exact List.eq_nil_of_length_eq_zero h1
    · next h =>
      constructor
      · intro h'; cases h'
      · rintro ⟨h1, h2⟩
        rw [List.eq_nil_of_length_eq_zero h1, sumSz] at h2; omega
  | n + 1, K, z, hK => by
    rw [allV, List.mem_flatMap]
    constructor
    · rintro ⟨x, hx, hz⟩
      obtain ⟨v, hv, rfl⟩ := List.mem_map.1 hz
      have hf := nums_fit hK hx
      obtain ⟨h1, h2⟩ := (mem_allV (n := n) (K := K - (sz13 x).toNat) (z := v) (by omega)).1 hv
      rw [List.length_cons, sumSz, h1, h2]
      exact ⟨rfl, by omega⟩
    · rintro ⟨h1, h2⟩
      cases z with
      | nil => cases h1
      | cons x v =>
        rw [sumSz] at h2
        have hv := sumSz_fit v
        have hx := sz13_pos x
        have h12 : -12 ≤ x ∧ x ≤ 12 ∧ (sz13 x = x ∨ sz13 x = -x) := sz13_le12 (by omega)
        refine ⟨x, mem_numsF.2 (by omega), List.mem_map.2 ⟨v, (mem_allV (n := n) (K := K - (sz13 x).toNat) (z := v) (by omega)).2 ⟨?_, by omega⟩, rfl⟩⟩
        rw [List.length_cons] at h1; omega
theorem sumSz_get {z : List Int} (h : sumSz z ≤ 12) (i : Nat) : -12 ≤ z.getD i 0 ∧ z.getD i 0 ≤ 12 := by
  by_cases hi : i < z.length
  · have hsp := sumSz_app (z.take (i + 1)) (z.drop (i + 1))
    rw [List.take_append_drop, take_snoc' 0 hi, sumSz_app] at hsp
    have f1 := (sumSz_fit (z.take i)).1
    have f2 := (sumSz_fit (z.drop (i + 1))).1
    have hq : sumSz [z.getD i 0] = sz13 (z.getD i 0) := by rw [sumSz, sumSz, Int.add_zero]
    have := sz13_le12 (x := z.getD i 0) (by omega)
    omega
  · rw [List.getD_eq_getElem?_getD, List.getElem?_eq_none (by omega)]; simp
end Go.SL.A

/- Functions do what they are held to do. -/
namespace Go.SL.A
open Go Go.SL Go.SL.S
end Go.SL.A

/- Packets: plain functions. -/
namespace Go.SL.S
open Go Go.SL
abbrev SHQ : Type := List Int × List (List Int)
def packR (s : SHQ) (size : Int) : Bool := if giveB size = 0 ∨ rightF s.1 = false then false else (List.range 8).all fun b => decide (pulsesF (s.2.getD b (List.replicate 4 0)) = (giveV s.1 (giveB size)).getD b 0)
end Go.SL.S

/- Shapes that are right for a size: plain functions. -/
namespace Go.SL.S
open Go Go.SL
def shRow (k : List Int) (l : List Int) (b : Nat) : List Int := vecF 4 (k.getD b 0) ((l.getD b 0).tmod (countF 4 (k.getD b 0)))
def shRows (k : List Int) (l : List Int) : List (List Int) := (List.range 8).map (shRow k l)
def shape19 (side l : List Int) (size : Int) : SHM := (held8 side, shRows (refF (held8 side) (8 * size - 64)) l)
end Go.SL.S
