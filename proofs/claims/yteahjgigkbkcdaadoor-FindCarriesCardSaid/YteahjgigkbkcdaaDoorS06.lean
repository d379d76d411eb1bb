/- Part 6 of what the statements of this seat need: a logic of states for the code of the model, the functions that they reach, and what these are held to do: no condition. -/
import Derived.Test.YteahjgigkbkcdaaDoorRows
import Derived.JoinedOf
import Derived.KernelRfl
import Derived.ProofKit
import Derived.ChangeArms
import Derived.Handed
import Derived.LaidLaws
import Derived.LaidHandle
import Derived.Test.YteahjgigkbkcdaaDoorS05
import Derived.Test.YteahjgigkbkcdaaDoorS04
import Derived.Test.YteahjgigkbkcdaaDoorS03
import Derived.Test.YteahjgigkbkcdaaDoorS02

/- Functions and what they are held to do: bound to their code. -/
namespace Go.SL.A
open Go Go.SL Go.SL.S
set_option maxRecDepth 100000
noncomputable def C114 : Ctx := ⟨Go.Proofs.Tryd.prog, D, G140, (fun _ _ => none), fun _ => []⟩
def ann114 (_r : Bool) (_t : FT.I) (_s c b : List Int) (_n : Int) (ns nc nb : Nat) (size gap last : Int) : Nat → St → Option Ann := fun id S => match id with | 0 => some ⟨Nat, [0, 1, 4, 5, 6], [1, 2, 4, 5], fun _ => [], fun k => [(0, some ⟨false, true, (.cons (.ref .ptr) (.cons (.ref .slice) (.cons (.ref .slice) (.cons (.ref .slice) (.cons (.int .i64) (.cons (.int .i64) (.last (.int .i64)))))))), [(.ptr 1 (.cons (.arr 127 (.int .i64)) (.last (.arr 128 (.int .i64)))) [0], .slice 2 (.int .i64) [] 0 ns, .slice 6 (.int .i64) [] 0 (nc + k), .slice 4 (.int .i64) [] 0 nb, size, gap + 1, last)]⟩), (6, some ⟨false, false, .int .i64, c ++ List.replicate k 0⟩)], fun k => k ≤ nb + gap.toNat + 1 - nc, fun k => nb + gap.toNat + 1 - nc - k⟩ | _ => some ⟨Nat, [0, 1, 4, 5, 6, 69, 70], [0, 1, 2, 4, 5], fun i => [(71, .v (.int .i64) (i : Int))], fun i => [(6, some ⟨false, false, .int .i64, growP (padI c (nb + gap.toNat + 1)) b (gap.toNat + 1) (S.i 6) i⟩)], fun i => i ≤ nb, fun i => nb - i⟩
def out114 (_r : Bool) (t : FT.I) (s c b : List Int) (n : Int) (ns nc nb : Nat) (size gap last : Int) : COut := ⟨[t = fieldT, ns = s.length ∧ nc = c.length ∧ nc ≤ 100 ∧ 1 ≤ nc ∧ nb = b.length ∧ 1 ≤ nb ∧ nb ≤ 100, 0 ≤ size ∧ size ≤ n ∧ n < ns ∧ n < 100 ∧ 0 ≤ gap ∧ gap ≤ n, (∀ x ∈ s, 0 ≤ x ∧ x < 128) ∧ (∀ x ∈ c, 0 ≤ x ∧ x < 128) ∧ ∀ x ∈ b, 0 ≤ x ∧ x < 128], .tup [], [(0, some ⟨false, true, (.cons (.ref .ptr) (.cons (.ref .slice) (.cons (.ref .slice) (.cons (.ref .slice) (.cons (.int .i64) (.cons (.int .i64) (.last (.int .i64)))))))), [(.ptr 1 (.cons (.arr 127 (.int .i64)) (.last (.arr 128 (.int .i64)))) [0], .slice 2 (.int .i64) [] 0 ns, .slice 5 (.int .i64) [] 0 (stepI s (c, b, size, gap, last) n.toNat).1.length, .slice 6 (.int .i64) [] 0 (stepI s (c, b, size, gap, last) n.toNat).2.1.length, (stepI s (c, b, size, gap, last) n.toNat).2.2.1, (stepI s (c, b, size, gap, last) n.toNat).2.2.2.1, (stepI s (c, b, size, gap, last) n.toNat).2.2.2.2)]⟩), (3, none), (4, none)], [⟨false, false, .int .i64, (stepI s (c, b, size, gap, last) n.toNat).1⟩, ⟨false, false, .int .i64, (stepI s (c, b, size, gap, last) n.toNat).2.1⟩]⟩
def sp114 : Spec := fun args ins => match args, ins with
  | [⟨.ref .ptr, .ptr 0 (.cons (.ref .ptr) (.cons (.ref .slice) (.cons (.ref .slice) (.cons (.ref .slice) (.cons (.int .i64) (.cons (.int .i64) (.last (.int .i64)))))))) [0]⟩, ⟨.int .i64, n⟩], [⟨false, true, (.cons (.ref .ptr) (.cons (.ref .slice) (.cons (.ref .slice) (.cons (.ref .slice) (.cons (.int .i64) (.cons (.int .i64) (.last (.int .i64)))))))), [(.ptr 1 (.cons (.arr 127 (.int .i64)) (.last (.arr 128 (.int .i64)))) [0], .slice 2 (.int .i64) [] 0 ns, .slice 3 (.int .i64) [] 0 nc, .slice 4 (.int .i64) [] 0 nb, size, gap, last)]⟩, ⟨false, true, (.cons (.arr 127 (.int .i64)) (.last (.arr 128 (.int .i64)))), [t]⟩, ⟨r, false, .int .i64, s⟩, ⟨false, false, .int .i64, c⟩, ⟨false, false, .int .i64, b⟩] => some (out114 r t s c b n ns nc nb size gap last)
  | _, _ => none
def G114 := addG G140 147 sp114
def P114 (r : Bool) (t : List Int × List Int) (s c b : List Int) (n : Int) (ns nc nb : Nat) (size gap last : Int) : Prop :=
 (t=fieldT∧(ns=List.length s∧nc=List.length c∧nc≤1000∧1≤nc)∧(0≤size∧size≤n∧n<(ns:Int)∧n<1000)∧∀ (x:Int),List.Mem x s→0≤x∧x<128)∧bif decide (discF c s size.toNat n.toNat=0) then 0=0∧0=0∧ns=ns∧0=0∧nc=List.length (stepI s (c,b,size,gap,last)
 n.toNat).1∧0=0∧nb=List.length (stepI s (c,b,size,gap,last) n.toNat).2.1∧size=(stepI s (c,b,size,gap,last) n.toNat).2.2.1∧IntKind.wrap .i64 (gap+1)=(stepI s (c,b,size,gap,last) n.toNat).2.2.2.1∧last=(stepI s (c,b,size,gap,last) n.toNat).2.2.2.2∧false=false∧t.1=t.1∧t.2=t.2∧false=false∧s=s∧r=r∧c=(stepI
 s (c,b,size,gap,last) n.toNat).1∧false=false∧b=(stepI s (c,b,size,gap,last) n.toNat).2.1∧false=false else (nc=List.length c∧0<nc∧nc≤1000)∧(t=fieldT∧t=fieldT)∧∃ (x:Nat),((0=0∧n=n∧discF c s size.toNat n.toNat=discF c s size.toNat n.toNat∧0=0∧nc=nc∧mlI
 (discF c s size.toNat n.toNat) (invI last)=mlI (discF c s size.toNat n.toNat) (invI last)∧0=0∧0=0∧ns=ns∧0=0∧nc=nc+x∧0=0∧nb=nb∧size=size∧IntKind.wrap .i64 (gap+1)=gap+1∧last=last∧false=false∧t.1=t.1∧t.2=t.2∧false=false∧s=s∧r=r∧b=b∧false=false∧c=c∧false=false∧c=c
 ++ List.replicate x (0:Int)∧false=false)∧x≤nb+gap.toNat+1 - nc)∧∀ (x:Nat),x≤nb+gap.toNat+1 - nc→((∀ (y:Ref × Ref × Ref × Ref × Int × Int × Int),List.Mem y [(Ref.ptr (1:Nat) (Ty.cons (Ty.arr (127:Nat) (Ty.int .i64)) (Ty.last (Ty.arr
 (128:Nat) (Ty.int .i64)))) [(0:Nat)],Ref.slice (2:Nat) (Ty.int .i64) [] (0:Nat) ns,Ref.slice (6:Nat) (Ty.int .i64) [] (0:Nat) (nc+x),Ref.slice (4:Nat) (Ty.int .i64) [] (0:Nat) nb,size,gap+1,last)]→IntKind.min .i64≤y.2.2.2.2.1∧y.2.2.2.2.1≤IntKind.max
 .i64∧IntKind.min .i64≤y.2.2.2.2.2.1∧y.2.2.2.2.2.1≤IntKind.max .i64∧IntKind.min .i64≤y.2.2.2.2.2.2∧y.2.2.2.2.2.2≤IntKind.max .i64)∧∀ (y:Int),List.Mem y (c ++ List.replicate x (0:Int))→IntKind.min .i64≤y∧y≤IntKind.max .i64)→bif decide
 ((↑ (nc+x):Int)<IntKind.wrap .i64 ((nb:Int)+(gap+1))) then ((1:Nat)≤1∧0+(nc+x)=List.length (List.append c (List.replicate x (0:Int)))∧(nc+x+1) * 8≤70368744177664)∧∃ (y:Nat),(0=0∧n=n∧discF c s size.toNat n.toNat=discF c s size.toNat
 n.toNat∧0=0∧nc=nc∧mlI (discF c s size.toNat n.toNat) (invI last)=mlI (discF c s size.toNat n.toNat) (invI last)∧0=0∧0=0∧ns=ns∧0=0∧nc+x+1=nc+y∧0=0∧nb=nb∧size=size∧gap+1=gap+1∧last=last∧false=false∧t.1=t.1∧t.2=t.2∧false=false∧s=s∧r=r∧b=b∧false=false∧c=c∧false=false∧List.append
 (List.drop (0:Nat) (List.append c (List.replicate x (0:Int)))) (seg ((0:Int) :: List.replicate (nat_lit 0) (0:Int)) (0:Nat) (1:Nat))=c ++ List.replicate y (0:Int)∧false=false)∧y≤nb+gap.toNat+1 - nc∧nb+gap.toNat+1 - nc - y<nb+gap.toNat+1
 - nc - x else ∃ (x_1:Nat),((0=0∧n=n∧discF c s size.toNat n.toNat=discF c s size.toNat n.toNat∧0=0∧nc=nc∧mlI (discF c s size.toNat n.toNat) (invI last)=mlI (discF c s size.toNat n.toNat) (invI last)∧0=0∧nb=nb∧(nb:Int)=(nb:Int)∧0=(x_1:Int)∧0=0∧0=0∧ns=ns∧0=0∧nc+x=nc+x∧0=0∧nb=nb∧size=size∧gap+1=gap+1∧last=last∧false=false∧t.1=t.1∧t.2=t.2∧false=false∧s=s∧r=r∧b=b∧false=false∧c=c∧false=false∧List.append
 c (List.replicate x (0:Int))=growP (padI c (nb+gap.toNat+1)) b (gap.toNat+1) (mlI (discF c s size.toNat n.toNat) (invI last)) x_1∧false=false)∧x_1≤nb)∧∀ (x_2:Nat),x_2≤nb→(IntKind.min .i64≤(x_2:Int)∧(x_2:Int)≤IntKind.max .i64∧∀ (y:Int),List.Mem
 y (growP (padI c (nb+gap.toNat+1)) b (gap.toNat+1) (mlI (discF c s size.toNat n.toNat) (invI last)) x_2)→IntKind.min .i64≤y∧y≤IntKind.max .i64)→bif decide ((x_2:Int)<(nb:Int)) then ((0≤(x_2:Int)∧(x_2:Int)<(nb:Int))∧0+(x_2:Int).toNat<List.length
 b)∧((0≤IntKind.wrap .i64 ((x_2:Int)+(gap+1))∧IntKind.wrap .i64 ((x_2:Int)+(gap+1))<(↑ (nc+x):Int))∧0+(IntKind.wrap .i64 ((x_2:Int)+(gap+1))).toNat<List.length (growP (padI c (nb+gap.toNat+1)) b (gap.toNat+1) (mlI (discF c s size.toNat
 n.toNat) (invI last)) x_2)∧t=fieldT∧(0≤IntKind.wrap .i64 ((x_2:Int)+(gap+1))∧IntKind.wrap .i64 ((x_2:Int)+(gap+1))<(↑ (nc+x):Int))∧0+(IntKind.wrap .i64 ((x_2:Int)+(gap+1))).toNat<List.length (growP (padI c (nb+gap.toNat+1)) b (gap.toNat+1)
 (mlI (discF c s size.toNat n.toNat) (invI last)) x_2))∧∃ (y:Nat),(0=0∧n=n∧discF c s size.toNat n.toNat=discF c s size.toNat n.toNat∧0=0∧nc=nc∧mlI (discF c s size.toNat n.toNat) (invI last)=mlI (discF c s size.toNat n.toNat) (invI last)∧0=0∧nb=nb∧(nb:Int)=(nb:Int)∧IntKind.wrap
 .i64 ((x_2:Int)+1)=(y:Int)∧0=0∧0=0∧ns=ns∧0=0∧nc+x=nc+x∧0=0∧nb=nb∧size=size∧gap+1=gap+1∧last=last∧false=false∧t.1=t.1∧t.2=t.2∧false=false∧s=s∧r=r∧b=b∧false=false∧c=c∧false=false∧List.set (growP (padI c (nb+gap.toNat+1)) b (gap.toNat+1)
 (mlI (discF c s size.toNat n.toNat) (invI last)) x_2) (0+(IntKind.wrap .i64 ((x_2:Int)+(gap+1))).toNat) (ixor .i64 (List.getD (growP (padI c (nb+gap.toNat+1)) b (gap.toNat+1) (mlI (discF c s size.toNat n.toNat) (invI last)) x_2) (0+(IntKind.wrap
 .i64 ((x_2:Int)+(gap+1))).toNat) (0:Int)) (mlI (mlI (discF c s size.toNat n.toNat) (invI last)) (List.getD b (0+(x_2:Int).toNat) (0:Int))))=growP (padI c (nb+gap.toNat+1)) b (gap.toNat+1) (mlI (discF c s size.toNat n.toNat) (invI last))
 y∧false=false)∧y≤nb∧nb - y<nb - x_2 else bif decide (IntKind.wrap .i64 ((2:Int) * size)≤n) then 0=0∧0=0∧ns=ns∧0=0∧nc+x=List.length (stepI s (c,b,size,gap,last) n.toNat).1∧0=0∧nc=List.length (stepI s (c,b,size,gap,last) n.toNat).2.1∧IntKind.wrap
 .i64 (IntKind.wrap .i64 (n+1) - size)=(stepI s (c,b,size,gap,last) n.toNat).2.2.1∧0=(stepI s (c,b,size,gap,last) n.toNat).2.2.2.1∧discF c s size.toNat n.toNat=(stepI s (c,b,size,gap,last) n.toNat).2.2.2.2∧false=false∧t.1=t.1∧t.2=t.2∧false=false∧s=s∧r=r∧growP
 (padI c (nb+gap.toNat+1)) b (gap.toNat+1) (mlI (discF c s size.toNat n.toNat) (invI last)) x_2=(stepI s (c,b,size,gap,last) n.toNat).1∧false=false∧c=(stepI s (c,b,size,gap,last) n.toNat).2.1∧false=false else 0=0∧0=0∧ns=ns∧0=0∧nc+x=List.length
 (stepI s (c,b,size,gap,last) n.toNat).1∧0=0∧nb=List.length (stepI s (c,b,size,gap,last) n.toNat).2.1∧size=(stepI s (c,b,size,gap,last) n.toNat).2.2.1∧gap+1=(stepI s (c,b,size,gap,last) n.toNat).2.2.2.1∧last=(stepI s (c,b,size,gap,last)
 n.toNat).2.2.2.2∧false=false∧t.1=t.1∧t.2=t.2∧false=false∧s=s∧r=r∧growP (padI c (nb+gap.toNat+1)) b (gap.toNat+1) (mlI (discF c s size.toNat n.toNat) (invI last)) x_2=(stepI s (c,b,size,gap,last) n.toNat).1∧false=false∧b=(stepI s (c,b,size,gap,last)
 n.toNat).2.1∧false=false
theorem vc114 (r : Bool) (t : FT.I) (s c b : List Int) (n : Int) (ns nc nb : Nat) (size gap last : Int) : P114 r t s c b n ns nc nb size gap last = vcFun C114 (ann114 r t s c b n ns nc nb size gap last) Go.Proofs.Tryd.f147 [⟨.ref .ptr, .ptr 0 (.cons (.ref .ptr) (.cons (.ref .slice) (.cons (.ref .slice) (.cons (.ref .slice) (.cons (.int .i64) (.cons (.int .i64) (.last (.int .i64)))))))) [0]⟩, ⟨.int .i64, n⟩] [⟨false, true, (.cons (.ref .ptr) (.cons (.ref .slice) (.cons (.ref .slice) (.cons (.ref .slice) (.cons (.int .i64) (.cons (.int .i64) (.last (.int .i64)))))))), [(.ptr 1 (.cons (.arr 127 (.int .i64)) (.last (.arr 128 (.int .i64)))) [0], .slice 2 (.int .i64) [] 0 ns, .slice 3 (.int .i64) [] 0 nc, .slice 4 (.int .i64) [] 0 nb, size, gap, last)]⟩, ⟨false, true, (.cons (.arr 127 (.int .i64)) (.last (.arr 128 (.int .i64)))), [t]⟩, ⟨r, false, .int .i64, s⟩, ⟨false, false, .int .i64, c⟩, ⟨false, false, .int .i64, b⟩] (out114 r t s c b n ns nc nb size gap last) := by kernel_rfl

end Go.SL.A

/- The search's step. -/
namespace Go.SL.A
open Go Go.SL Go.SL.S
set_option maxRecDepth 100000

theorem growP_len (c b : List Int) (g : Nat) (a : Int) (i : Nat) : (growP c b g a i).length = c.length := by simp [growP]
theorem growP_at (c b : List Int) (g : Nat) (a : Int) (i : Nat) {j : Nat} (h : j < c.length) : (growP c b g a i)[j]? = some (if g ≤ j ∧ j < g + i then ofE (toE (c.getD j 0) ^^^ ml (toE a) (toE (b.getD (j - g) 0))) else c.getD j 0) := by
  unfold growP; rw [List.getElem?_map, List.getElem?_range h]; rfl
theorem growP_getD (c b : List Int) (g : Nat) (a : Int) (i : Nat) {j : Nat} (h : j < c.length) : (growP c b g a i).getD j 0 = if g ≤ j ∧ j < g + i then ofE (toE (c.getD j 0) ^^^ ml (toE a) (toE (b.getD (j - g) 0))) else c.getD j 0 := by
  rw [List.getD_eq_getElem?_getD, growP_at c b g a i h]; rfl
theorem growP_zero (c b : List Int) (g : Nat) (a : Int) : c = growP c b g a 0 := by
  refine List.ext_getElem? fun j => ?_
  by_cases h : j < c.length
  · rw [growP_at c b g a 0 h, if_neg (by omega), List.getD_eq_getElem?_getD, List.getElem?_eq_getElem h]; rfl
  · rw [List.getElem?_eq_none (by omega), List.getElem?_eq_none (by rw [growP_len]; omega)]
theorem growP_step (c b : List Int) (g : Nat) (a : Int) {i : Nat} (h : g + i < c.length) (hc : ∀ x ∈ c, 0 ≤ x ∧ x < 128) :
    List.set (growP c b g a i) (g + i) (ixor .i64 ((growP c b g a i).getD (g + i) 0) (mlI a (b.getD i 0))) = growP c b g a (i + 1) := by
  have e1 : (growP c b g a i).getD (g + i) 0 = c.getD (g + i) 0 := by rw [growP_getD c b g a i h, if_neg (by omega)]
  have e2 : ixor .i64 (c.getD (g + i) 0) (mlI a (b.getD i 0)) = ofE (toE (c.getD (g + i) 0) ^^^ ml (toE a) (toE (b.getD i 0))) := by
    have hr := getD_rng hc (g + i)
    have := ixor_ofE (toE (c.getD (g + i) 0)) (ml (toE a) (toE (b.getD i 0)))
    rw [ofE_toE hr] at this; exact this
  rw [e1, e2]
  refine List.ext_getElem? fun j => ?_
  by_cases hj : j < c.length
  · rw [List.getElem?_set, growP_at c b g a (i + 1) hj, growP_at c b g a i hj]
    by_cases e : g + i = j
    · subst e
      rw [if_pos rfl, if_pos (by rw [growP_len]; exact h), if_pos (by omega), Nat.add_sub_cancel_left]
    · rw [if_neg e]
      by_cases h1 : g ≤ j ∧ j < g + i
      · rw [if_pos h1, if_pos (by omega)]
      · rw [if_neg h1, if_neg (by omega)]
  · rw [List.getElem?_eq_none (by rw [List.length_set, growP_len]; omega), List.getElem?_eq_none (by rw [growP_len]; omega)]

theorem padI_rng {c : List Int} (hc : ∀ x ∈ c, 0 ≤ x ∧ x < 128) (n : Nat) : ∀ x ∈ padI c n, 0 ≤ x ∧ x < 128 := by
  intro x hx
  unfold padI at hx
  rcases List.mem_append.1 hx with h | h
  · exact hc x h
  · rw [List.eq_of_mem_replicate h]; omega
theorem padI_len (c : List Int) (n : Nat) : (padI c n).length = max c.length n := by unfold padI; simp; omega

theorem pure114 (r : Bool) (t : FT.I) (s c b : List Int) (n : Int) (ns nc nb : Nat) (size gap last : Int)
    (hp : t = fieldT ∧ (ns = s.length ∧ nc = c.length ∧ nc ≤ 100 ∧ 1 ≤ nc ∧ nb = b.length ∧ 1 ≤ nb ∧ nb ≤ 100) ∧ (0 ≤ size ∧ size ≤ n ∧ n < ns ∧ n < 100 ∧ 0 ≤ gap ∧ gap ≤ n) ∧ (∀ x ∈ s, 0 ≤ x ∧ x < 128) ∧ (∀ x ∈ c, 0 ≤ x ∧ x < 128) ∧ ∀ x ∈ b, 0 ≤ x ∧ x < 128) : P114 r t s c b n ns nc nb size gap last := by
  obtain ⟨ht, ⟨h1, h2, h3, h4, h5, h6, h7⟩, ⟨g1, g2, g3, g4, g5, g6⟩, hs, hc, hb⟩ := hp
  unfold P114
  have hd := disc_rng hs c n.toNat (min size.toNat (c.length - 1))
  have hdd : discTo c s n.toNat (min size.toNat (c.length - 1)) = discF c s size.toNat n.toNat := rfl
  rw [hdd] at hd
  have st : stepI s (c, b, size, gap, last) n.toNat = if discF c s size.toNat n.toNat = 0 then (c, b, size, gap + 1, last)
    else if 2 * size ≤ (n.toNat : Int) then (growI c b (gap + 1).toNat (mlI (discF c s size.toNat n.toNat) (invI last)), c, (n.toNat : Int) + 1 - size, 0, discF c s size.toNat n.toNat)
    else (growI c b (gap + 1).toNat (mlI (discF c s size.toNat n.toNat) (invI last)), b, size, gap + 1, last) := rfl
  rw [w64 (n := gap + 1) (by omega) (by omega)]
  generalize discF c s size.toNat n.toNat = d at *
  simp only [eq_self, true_and, and_true, Int.toNat_natCast, Nat.zero_add]
  refine ⟨⟨ht, ⟨h1, h2, by omega, h4⟩, ⟨g1, g2, g3, by omega⟩, hs⟩, ?_⟩
  by_cases d0 : d = 0
  · rw [if_pos d0] at st
    rw [decide_eq_true d0, cond_true, st]
    exact ⟨h2, h5, rfl, rfl, rfl, rfl, rfl⟩
  · rw [if_neg d0] at st
    rw [decide_eq_false d0, cond_false]
    have eg : (gap + 1).toNat = gap.toNat + 1 := by omega
    rw [eg] at st
    generalize hA : mlI d (invI last) = a at *
    refine ⟨⟨h2, by omega, by omega⟩, ⟨ht, ht⟩, 0, ⟨⟨rfl, by rw [List.replicate_zero, List.append_nil]⟩, by omega⟩, fun k hk _ => ?_⟩
    rw [w64 (n := (nb : Int) + (gap + 1)) (by omega) (by omega)]
    by_cases hk2 : ((nc + k : Nat) : Int) < (nb : Int) + (gap + 1)
    · rw [decide_eq_true hk2, cond_true]
      have hl : (List.append c (List.replicate k 0)).length = nc + k := by
        show (c ++ List.replicate k 0).length = _
        rw [List.length_append, List.length_replicate, h2]
      refine ⟨⟨by omega, hl.symm, by omega⟩, k + 1, ⟨by omega, ?_⟩, by omega, by omega⟩
      show List.drop 0 (c ++ List.replicate k 0) ++ [0] = _
      rw [List.drop_zero, List.append_assoc, List.replicate_succ']
    · have hk3 : k = nb + gap.toNat + 1 - nc := by omega
      rw [decide_eq_false hk2, cond_false]
      have hpad : c ++ List.replicate k 0 = padI c (nb + gap.toNat + 1) := by unfold padI; rw [hk3, h2]
      have hpl : (padI c (nb + gap.toNat + 1)).length = nc + k := by rw [padI_len, ← h2]; omega
      have hpr := padI_rng hc (nb + gap.toNat + 1)
      have hgrow : growI c b (gap.toNat + 1) a = growP (padI c (nb + gap.toNat + 1)) b (gap.toNat + 1) a nb := by unfold growI; rw [← h5]; rfl
      have hgl : (growI c b (gap.toNat + 1) a).length = nc + k := by rw [hgrow, growP_len, hpl]
      have hz : List.append c (List.replicate k 0) = growP (padI c (nb + gap.toNat + 1)) b (gap.toNat + 1) a 0 := by
        rw [← growP_zero]; exact hpad
      generalize padI c (nb + gap.toNat + 1) = q at *
      refine ⟨0, ⟨⟨rfl, hz⟩, by omega⟩, fun i hi _ => ?_⟩
      by_cases hi2 : (i : Int) < (nb : Int)
      · rw [decide_eq_true hi2, cond_true, w64 (n := (i : Int) + (gap + 1)) (by omega) (by omega)]
        have ei : ((i : Int) + (gap + 1)).toNat = gap.toNat + 1 + i := by omega
        rw [ei]
        have hs2 := growP_step q b (gap.toNat + 1) a (i := i) (by omega) hpr
        refine ⟨⟨⟨by first | omega | trivial, by first | omega | trivial⟩, by omega⟩, ⟨⟨by omega, by omega⟩, by rw [growP_len]; omega, ht, ⟨by omega, by omega⟩, by rw [growP_len]; omega⟩, i + 1, ⟨by rw [w64 (by omega) (by omega)]; omega, hs2⟩, by omega, by omega⟩
      · have : i = nb := by omega
        subst this
        rw [decide_eq_false hi2, cond_false, w64 (n := 2 * size) (by omega) (by omega)]
        have en : ((n.toNat : Nat) : Int) = n := by omega
        rw [en] at st
        by_cases h2s : 2 * size ≤ n
        · rw [if_pos h2s] at st
          rw [decide_eq_true h2s, cond_true, st, w64 (n := n + 1) (by omega) (by omega), w64 (n := n + 1 - size) (by omega) (by omega)]
          exact ⟨hgl.symm, h2, rfl, rfl, rfl, hgrow.symm, rfl⟩
        · rw [if_neg h2s] at st
          rw [decide_eq_false h2s, cond_false, st]
          exact ⟨hgl.symm, h5, rfl, rfl, rfl, hgrow.symm, rfl⟩
end Go.SL.A

/- Functions do what they are held to do. -/
namespace Go.SL.A
open Go Go.SL Go.SL.S
theorem snd114 : Sound Go.Proofs.Tryd.prog G114 := snd140.add ⟨_, Go.Proofs.Tryd.func147, by kernel_rfl, by kernel_rfl⟩ (by
  intro args ins out h hp
  unfold sp114 at h
  split at h
  · rename_i n ns nc nb size gap last t r s c b
    cases h
    exact vcFun_ok (C := C114) good snd140 Meth.none mix Go.Proofs.Tryd.func147 (ann114 r t s c b n ns nc nb size gap last) (fun hw => by rw [← vc114 r t s c b n ns nc nb size gap last]; exact pure114 r t s c b n ns nc nb size gap last hp)
  · cases h)

end Go.SL.A

/- Places of errors: plain functions. -/
namespace Go.SL.S
open Go Go.SL
def bmTo (s : List Int) : Nat → BS
  | 0 => ([1], [1], 0, 0, 1)
  | n + 1 => stepI s (bmTo s n) n
def rootB (c : List Int) (k : Nat) : Bool := decide (evI c (xpI (0 - (k : Int))) = 0)
def locL (c : List Int) (i : Nat) : List Int := ((List.range i).filter (rootB c)).map fun k : Nat => (k : Int)
def locW (c : List Int) (i : Nat) : List Bool := (List.range 127).map fun k => decide (k < i) && rootB c k
def locC (s : List Int) : List Int := (bmTo s 20).1
def locB (s : List Int) : Bool := rightS s && (!decide (10 < ((locL (locC s) 127).length : Int)) && decide (synL (locW (locC s) 127) = s))
def locF (s : List Int) : List Int := if locB s then locL (locC s) 127 else []
end Go.SL.S

/- Functions and what they are held to do: bound to their code. -/
namespace Go.SL.A
open Go Go.SL Go.SL.S
set_option maxRecDepth 100000
noncomputable def C76 : Ctx := ⟨Go.Proofs.Tryd.prog, D, G114, (fun _ _ => none), fun _ => []⟩
def ann76 (_r : Bool) (s : List Int) (ns : Nat) : Nat → St → Option Ann := fun id _ => match id with | 0 => some ⟨Nat, [0, 4, 5, 6, 24], [0, 1], fun n => [(25, .v (.int .i64) (n : Int))], fun n => [(4, some ⟨false, true, (.cons (.ref .ptr) (.cons (.ref .slice) (.cons (.ref .slice) (.cons (.ref .slice) (.cons (.int .i64) (.cons (.int .i64) (.last (.int .i64)))))))), [(.ptr 1 (.cons (.arr 127 (.int .i64)) (.last (.arr 128 (.int .i64)))) [0], .slice 0 (.int .i64) [] 0 ns, .slice 5 (.int .i64) [] 0 (bmTo s n).1.length, .slice 6 (.int .i64) [] 0 (bmTo s n).2.1.length, (bmTo s n).2.2.1, (bmTo s n).2.2.2.1, (bmTo s n).2.2.2.2)]⟩), (5, some ⟨false, false, .int .i64, (bmTo s n).1⟩), (6, some ⟨false, false, .int .i64, (bmTo s n).2.1⟩)], fun n => n ≤ 20, fun n => 20 - n⟩ | _ => some ⟨Nat, [0, 4, 5, 9], [0, 1, 4, 5], fun i => [(32, .v (.int .i64) (i : Int)), (8, .v (.ref .slice) (.slice 8 (.int .i64) [] 0 (locL (locC s) i).length))], fun i => [(7, some ⟨false, true, .arr 127 .bool, [locW (locC s) i]⟩), (8, some ⟨false, false, .int .i64, locL (locC s) i⟩)], fun i => i ≤ 127, fun i => 127 - i⟩
def out76 (_r : Bool) (s : List Int) (ns : Nat) : COut := ⟨[ns = s.length ∧ ns ≤ 1000000000], .tup [⟨.ref .slice, .slice 1 (.int .i64) [] 0 (locF s).length⟩, ⟨.bool, locB s⟩], [], [⟨false, false, .int .i64, locF s⟩]⟩
def sp76 : Spec := fun args ins => match args, ins with
  | [⟨.ref .slice, .slice 0 (.int .i64) [] 0 ns⟩], [⟨r, false, .int .i64, s⟩] => some (out76 r s ns)
  | _, _ => none
def G76 := addG G114 118 sp76
def P76 (r : Bool) (s : List Int) (ns : Nat) : Prop :=
 (ns=List.length s∧ns≤1000000000)∧bif !rightS s then List.length (locF s)=0∧false=locB s∧s=s∧r=r∧locF s=[] else ∃ (x:Nat),((0=0∧ns=ns∧0=0∧0=0∧0=0∧(ns:Int)=(ns:Int)∧0=(x:Int)∧s=s∧r=r∧fieldT.1=fieldT.1∧fieldT.2=fieldT.2∧false=false∧0=0∧0=0∧ns=ns∧0=0∧1=List.length
 (bmTo s x).1∧0=0∧1=List.length (bmTo s x).2.1∧0=(bmTo s x).2.2.1∧0=(bmTo s x).2.2.2.1∧1=(bmTo s x).2.2.2.2∧false=false∧(1:Int) :: List.replicate (nat_lit 0) (0:Int)=(bmTo s x).1∧false=false∧(1:Int) :: List.replicate (nat_lit 0) (0:Int)=(bmTo
 s x).2.1∧false=false)∧x≤20)∧∀ (x:Nat),x≤20→(IntKind.min .i64≤(x:Int)∧(x:Int)≤IntKind.max .i64∧(∀ (y:Ref × Ref × Ref × Ref × Int × Int × Int),List.Mem y [(Ref.ptr (1:Nat) (Ty.cons (Ty.arr (127:Nat) (Ty.int .i64)) (Ty.last (Ty.arr (128:Nat)
 (Ty.int .i64)))) [(0:Nat)],Ref.slice (0:Nat) (Ty.int .i64) [] (0:Nat) ns,Ref.slice (5:Nat) (Ty.int .i64) [] (0:Nat) (List.length (bmTo s x).1),Ref.slice (6:Nat) (Ty.int .i64) [] (0:Nat) (List.length (bmTo s x).2.1),(bmTo s x).2.2.1,(bmTo
 s x).2.2.2.1,(bmTo s x).2.2.2.2)]→IntKind.min .i64≤y.2.2.2.2.1∧y.2.2.2.2.1≤IntKind.max .i64∧IntKind.min .i64≤y.2.2.2.2.2.1∧y.2.2.2.2.2.1≤IntKind.max .i64∧IntKind.min .i64≤y.2.2.2.2.2.2∧y.2.2.2.2.2.2≤IntKind.max .i64)∧(∀ (y:Int),List.Mem
 y (bmTo s x).1→IntKind.min .i64≤y∧y≤IntKind.max .i64)∧∀ (y:Int),List.Mem y (bmTo s x).2.1→IntKind.min .i64≤y∧y≤IntKind.max .i64)→bif decide ((x:Int)<(ns:Int)) then (fieldT=fieldT∧(ns=List.length s∧List.length (bmTo s x).1=List.length
 (bmTo s x).1∧List.length (bmTo s x).1≤100∧1≤List.length (bmTo s x).1∧List.length (bmTo s x).2.1=List.length (bmTo s x).2.1∧1≤List.length (bmTo s x).2.1∧List.length (bmTo s x).2.1≤100)∧(0≤(bmTo s x).2.2.1∧(bmTo s x).2.2.1≤(x:Int)∧(x:Int)<(ns:Int)∧(x:Int)<100∧0≤(bmTo
 s x).2.2.2.1∧(bmTo s x).2.2.2.1≤(x:Int))∧(∀ (x:Int),List.Mem x s→0≤x∧x<128)∧(∀ (x_1:Int),List.Mem x_1 (bmTo s x).1→0≤x_1∧x_1<128)∧∀ (x_1:Int),List.Mem x_1 (bmTo s x).2.1→0≤x_1∧x_1<128)∧∃ (y:Nat),(0=0∧ns=ns∧0=0∧0=0∧0=0∧(ns:Int)=(ns:Int)∧IntKind.wrap
 .i64 ((x:Int)+1)=(y:Int)∧s=s∧r=r∧fieldT.1=fieldT.1∧fieldT.2=fieldT.2∧false=false∧0=0∧0=0∧ns=ns∧0=0∧List.length (stepI s ((bmTo s x).1,(bmTo s x).2.1,(bmTo s x).2.2.1,(bmTo s x).2.2.2.1,(bmTo s x).2.2.2.2) (x:Int).toNat).1=List.length
 (bmTo s y).1∧0=0∧List.length (stepI s ((bmTo s x).1,(bmTo s x).2.1,(bmTo s x).2.2.1,(bmTo s x).2.2.2.1,(bmTo s x).2.2.2.2) (x:Int).toNat).2.1=List.length (bmTo s y).2.1∧(stepI s ((bmTo s x).1,(bmTo s x).2.1,(bmTo s x).2.2.1,(bmTo s
 x).2.2.2.1,(bmTo s x).2.2.2.2) (x:Int).toNat).2.2.1=(bmTo s y).2.2.1∧(stepI s ((bmTo s x).1,(bmTo s x).2.1,(bmTo s x).2.2.1,(bmTo s x).2.2.2.1,(bmTo s x).2.2.2.2) (x:Int).toNat).2.2.2.1=(bmTo s y).2.2.2.1∧(stepI s ((bmTo s x).1,(bmTo
 s x).2.1,(bmTo s x).2.2.1,(bmTo s x).2.2.2.1,(bmTo s x).2.2.2.2) (x:Int).toNat).2.2.2.2=(bmTo s y).2.2.2.2∧false=false∧(stepI s ((bmTo s x).1,(bmTo s x).2.1,(bmTo s x).2.2.1,(bmTo s x).2.2.2.1,(bmTo s x).2.2.2.2) (x:Int).toNat).1=(bmTo
 s y).1∧false=false∧(stepI s ((bmTo s x).1,(bmTo s x).2.1,(bmTo s x).2.2.1,(bmTo s x).2.2.2.1,(bmTo s x).2.2.2.2) (x:Int).toNat).2.1=(bmTo s y).2.1∧false=false)∧y≤20∧20 - y<20 - x else ∃ (x_1:Nat),((0=0∧ns=ns∧0=0∧0=0∧List.length (locL
 (locC s) x_1)=0∧0=0∧0=(x_1:Int)∧s=s∧r=r∧fieldT.1=fieldT.1∧fieldT.2=fieldT.2∧false=false∧0=0∧0=0∧ns=ns∧0=0∧List.length (bmTo s x).1=List.length (bmTo s x).1∧0=0∧List.length (bmTo s x).2.1=List.length (bmTo s x).2.1∧(bmTo s x).2.2.1=(bmTo
 s x).2.2.1∧(bmTo s x).2.2.2.1=(bmTo s x).2.2.2.1∧(bmTo s x).2.2.2.2=(bmTo s x).2.2.2.2∧false=false∧(bmTo s x).1=(bmTo s x).1∧false=false∧false :: List.replicate (nat_lit 126) false=locW (locC s) x_1∧false=false∧locL (locC s) x_1=[])∧x_1≤127)∧∀
 (x_2:Nat),x_2≤127→(IntKind.min .i64≤(x_2:Int)∧(x_2:Int)≤IntKind.max .i64∧(∀ (y:List Bool),List.Mem y [locW (locC s) x_2]→List.length y=127∧∀ (y_1:Bool),List.Mem y_1 y→True)∧∀ (y:Int),List.Mem y (locL (locC s) x_2)→IntKind.min .i64≤y∧y≤IntKind.max
 .i64)→bif decide ((x_2:Int)<127) then (fieldT=fieldT∧fieldT=fieldT∧List.length (bmTo s x).1=List.length (bmTo s x).1∧List.length (bmTo s x).1≤1000000)∧bif decide (evI (bmTo s x).1 (xpI (IntKind.wrap .i64 (0 - (x_2:Int))))=0) then ((1:Nat)≤1∧0+List.length
 (locL (locC s) x_2)=List.length (locL (locC s) x_2)∧(List.length (locL (locC s) x_2)+List.length (seg ((x_2:Int) :: List.replicate (nat_lit 0) (0:Int)) (0:Nat) (1:Nat))) * 8≤70368744177664)∧((0≤(x_2:Int)∧(x_2:Int)<(↑ (127:Nat):Int))∧(x_2:Int).toNat<127)∧∃
 (y:Nat),(0=0∧ns=ns∧0=0∧0=0∧0=0∧List.length (locL (locC s) x_2)+List.length (seg ((x_2:Int) :: List.replicate (nat_lit 0) (0:Int)) (0:Nat) (1:Nat))=List.length (locL (locC s) y)∧0=0∧IntKind.wrap .i64 ((x_2:Int)+1)=(y:Int)∧s=s∧r=r∧fieldT.1=fieldT.1∧fieldT.2=fieldT.2∧false=false∧0=0∧0=0∧ns=ns∧0=0∧List.length
 (bmTo s x).1=List.length (bmTo s x).1∧0=0∧List.length (bmTo s x).2.1=List.length (bmTo s x).2.1∧(bmTo s x).2.2.1=(bmTo s x).2.2.1∧(bmTo s x).2.2.2.1=(bmTo s x).2.2.2.1∧(bmTo s x).2.2.2.2=(bmTo s x).2.2.2.2∧false=false∧(bmTo s x).1=(bmTo
 s x).1∧false=false∧List.set (locW (locC s) x_2) (x_2:Int).toNat true=locW (locC s) y∧false=false∧List.append (List.drop (0:Nat) (locL (locC s) x_2)) (seg ((x_2:Int) :: List.replicate (nat_lit 0) (0:Int)) (0:Nat) (1:Nat))=locL (locC
 s) y∧false=false)∧y≤127∧127 - y<127 - x_2 else ∃ (y:Nat),(0=0∧ns=ns∧0=0∧0=0∧0=0∧List.length (locL (locC s) x_2)=List.length (locL (locC s) y)∧0=0∧IntKind.wrap .i64 ((x_2:Int)+1)=(y:Int)∧s=s∧r=r∧fieldT.1=fieldT.1∧fieldT.2=fieldT.2∧false=false∧0=0∧0=0∧ns=ns∧0=0∧List.length
 (bmTo s x).1=List.length (bmTo s x).1∧0=0∧List.length (bmTo s x).2.1=List.length (bmTo s x).2.1∧(bmTo s x).2.2.1=(bmTo s x).2.2.1∧(bmTo s x).2.2.2.1=(bmTo s x).2.2.2.1∧(bmTo s x).2.2.2.2=(bmTo s x).2.2.2.2∧false=false∧(bmTo s x).1=(bmTo
 s x).1∧false=false∧locW (locC s) x_2=locW (locC s) y∧false=false∧locL (locC s) x_2=locL (locC s) y∧false=false)∧y≤127∧127 - y<127 - x_2 else bif decide (10<(↑ (List.length (locL (locC s) x_2)):Int)) then (true=false→false=true)∧List.length
 (locF s)=0∧false=locB s∧s=s∧r=r∧locF s=[] else (20=List.length (synL (locW (locC s) x_2))∧(20:Nat)≤1000000000∧ns=List.length s∧ns≤1000000000)∧bif !decide (synL (locW (locC s) x_2)=s) then List.length (locF s)=0∧false=locB s∧s=s∧r=r∧locF
 s=[] else 0=0∧List.length (locL (locC s) x_2)=List.length (locF s)∧true=locB s∧s=s∧r=r∧locL (locC s) x_2=locF s∧false=false
theorem vc76 (r : Bool) (s : List Int) (ns : Nat) : P76 r s ns = vcFun C76 (ann76 r s ns) Go.Proofs.Tryd.f118 [⟨.ref .slice, .slice 0 (.int .i64) [] 0 ns⟩] [⟨r, false, .int .i64, s⟩] (out76 r s ns) := by kernel_rfl

end Go.SL.A

/- Places of errors. -/
namespace Go.SL.A
open Go Go.SL Go.SL.S
set_option maxRecDepth 100000

structure BI (n : Nat) (x : BS) : Prop where
  c1 : 1 ≤ x.1.length
  c2 : x.1.length ≤ n + 1
  b1 : 1 ≤ x.2.1.length
  b2 : (x.2.1.length : Int) + x.2.2.2.1 ≤ n + 1
  s0 : 0 ≤ x.2.2.1
  s1 : x.2.2.1 ≤ n
  g0 : 0 ≤ x.2.2.2.1
  cr : ∀ v ∈ x.1, 0 ≤ v ∧ v < 128
  br : ∀ v ∈ x.2.1, 0 ≤ v ∧ v < 128

theorem growP_rng {c : List Int} (hc : ∀ x ∈ c, 0 ≤ x ∧ x < 128) (b : List Int) (g : Nat) (a : Int) (i : Nat) : ∀ x ∈ growP c b g a i, 0 ≤ x ∧ x < 128 := by
  intro x hx
  unfold growP at hx
  obtain ⟨j, -, rfl⟩ := List.mem_map.1 hx
  split
  · exact ofE_fit _
  · exact getD_rng hc j
theorem growI_len (c b : List Int) (g : Nat) (a : Int) : (growI c b g a).length = max c.length (b.length + g) := by unfold growI; rw [growP_len, padI_len]
theorem growI_rng {c : List Int} (hc : ∀ x ∈ c, 0 ≤ x ∧ x < 128) (b : List Int) (g : Nat) (a : Int) : ∀ x ∈ growI c b g a, 0 ≤ x ∧ x < 128 :=
  growP_rng (padI_rng hc _) b g a _

theorem BI.init (s : List Int) : BI 0 (bmTo s 0) := by
  have hv : ∀ v ∈ ([1] : List Int), 0 ≤ v ∧ v < 128 := fun v hv => by
    have : v = 1 := by simpa using hv
    omega
  have e : bmTo s 0 = ([1], [1], 0, 0, 1) := rfl
  rw [e]
  exact ⟨by decide, by decide, by decide, by decide, by decide, by decide, by decide, hv, hv⟩

theorem BI.step {n : Nat} {x : BS} (h : BI n x) (s : List Int) : BI (n + 1) (stepI s x n) := by
  obtain ⟨c1, c2, b1, b2, s0, s1, g0, cr, br⟩ := h
  obtain ⟨c, b, size, gap, last⟩ := x
  simp only at c1 c2 b1 b2 s0 s1 g0 cr br
  have st : stepI s (c, b, size, gap, last) n = if discF c s size.toNat n = 0 then (c, b, size, gap + 1, last)
    else if 2 * size ≤ (n : Int) then (growI c b (gap + 1).toNat (mlI (discF c s size.toNat n) (invI last)), c, (n : Int) + 1 - size, 0, discF c s size.toNat n)
    else (growI c b (gap + 1).toNat (mlI (discF c s size.toNat n) (invI last)), b, size, gap + 1, last) := rfl
  rw [st]
  have gr := growI_rng cr b (gap + 1).toNat (mlI (discF c s size.toNat n) (invI last))
  have gl := growI_len c b (gap + 1).toNat (mlI (discF c s size.toNat n) (invI last))
  generalize growI c b (gap + 1).toNat (mlI (discF c s size.toNat n) (invI last)) = G at *
  split
  · exact ⟨c1, by simp only; omega, b1, by simp only; omega, s0, by simp only; omega, by simp only; omega, cr, br⟩
  · split
    · exact ⟨by simp only; omega, by simp only; omega, c1, by simp only; omega, by simp only; omega, by simp only; omega, by simp only; omega, gr, cr⟩
    · exact ⟨by simp only; omega, by simp only; omega, b1, by simp only; omega, s0, by simp only; omega, by simp only; omega, gr, br⟩
theorem bm_ok (s : List Int) : ∀ n, BI n (bmTo s n)
  | 0 => BI.init s
  | n + 1 => (bm_ok s n).step s

theorem right_rng {s : List Int} (h : rightS s = true) : s.length = 20 ∧ ∀ x ∈ s, 0 ≤ x ∧ x < 128 := by
  unfold rightS at h
  rw [Bool.and_eq_true, decide_eq_true_eq] at h
  obtain ⟨h1, h2⟩ := h
  refine ⟨by omega, fun x hx => ?_⟩
  simp only [Bool.not_eq_true', List.any_eq_false] at h2
  have := h2 x hx
  unfold badS at this
  simp only [Bool.or_eq_true, decide_eq_true_eq] at this
  omega

theorem locL_step (c : List Int) (i : Nat) : locL c (i + 1) = if rootB c i then locL c i ++ [(i : Int)] else locL c i := by
  unfold locL
  rw [List.range_succ, List.filter_append, List.map_append]
  cases h : rootB c i <;> simp [h]
theorem locL_len (c : List Int) (i : Nat) : (locL c i).length ≤ i := by
  unfold locL
  rw [List.length_map]
  exact Nat.le_trans (List.length_filter_le _ _) (by simp)
theorem locW_len (c : List Int) (i : Nat) : (locW c i).length = 127 := by simp [locW]
theorem locW_at (c : List Int) (i : Nat) {k : Nat} (h : k < 127) : (locW c i)[k]? = some (decide (k < i) && rootB c k) := by
  unfold locW; rw [List.getElem?_map, List.getElem?_range h]; rfl
theorem locW_step (c : List Int) {i : Nat} (hi : i < 127) (h : rootB c i = true) : List.set (locW c i) i true = locW c (i + 1) := by
  refine List.ext_getElem? fun k => ?_
  by_cases hk : k < 127
  · rw [List.getElem?_set, locW_at c i hk, locW_at c (i + 1) hk]
    by_cases e : i = k
    · subst e
      rw [if_pos rfl, if_pos (by rw [locW_len]; exact hi), h, decide_eq_true (by omega)]; rfl
    · rw [if_neg e]
      by_cases h1 : k < i
      · rw [decide_eq_true h1, decide_eq_true (by omega)]
      · rw [decide_eq_false h1, decide_eq_false (by omega)]
  · rw [List.getElem?_eq_none (by rw [List.length_set, locW_len]; omega), List.getElem?_eq_none (by rw [locW_len]; omega)]
theorem locW_keep (c : List Int) {i : Nat} (h : rootB c i = false) : locW c i = locW c (i + 1) := by
  refine List.ext_getElem? fun k => ?_
  by_cases hk : k < 127
  · rw [locW_at c i hk, locW_at c (i + 1) hk]
    by_cases e : k = i
    · subst e; rw [h, Bool.and_false, Bool.and_false]
    · by_cases h1 : k < i
      · rw [decide_eq_true h1, decide_eq_true (by omega)]
      · rw [decide_eq_false h1, decide_eq_false (by omega)]
  · rw [List.getElem?_eq_none (by rw [locW_len]; omega), List.getElem?_eq_none (by rw [locW_len]; omega)]
theorem locW_zero (c : List Int) : false :: List.replicate 126 false = locW c 0 := by
  show List.replicate 127 false = _
  refine List.ext_getElem? fun k => ?_
  by_cases hk : k < 127
  · rw [locW_at c 0 hk, List.getElem?_replicate, if_pos hk]; simp
  · rw [List.getElem?_eq_none (by rw [List.length_replicate]; omega), List.getElem?_eq_none (by rw [locW_len]; omega)]

theorem pure76 (r : Bool) (s : List Int) (ns : Nat) (hp : ns = s.length ∧ ns ≤ 1000000000) : P76 r s ns := by
  obtain ⟨hn, hn2⟩ := hp
  unfold P76
  simp only [eq_self, true_and, and_true, Int.toNat_natCast, Nat.zero_add]
  refine ⟨⟨hn, hn2⟩, ?_⟩
  cases hr : rightS s with
  | false =>
    have hB : locB s = false := by unfold locB; rw [hr]; rfl
    have hF : locF s = [] := by unfold locF; rw [hB]; rfl
    rw [Bool.not_false, cond_true, hB, hF]
    simp
  | true =>
    obtain ⟨hl, hs⟩ := right_rng hr
    rw [Bool.not_true, cond_false]
    refine ⟨0, ⟨⟨rfl, rfl, rfl, rfl, rfl, rfl, rfl, rfl⟩, by omega⟩, fun n hn3 hw => ?_⟩
    clear hw
    obtain ⟨c1, c2, b1, b2, s0, s1, g0, cr, br⟩ := bm_ok s n
    have hst : bmTo s (n + 1) = stepI s ((bmTo s n).1, (bmTo s n).2.1, (bmTo s n).2.2.1, (bmTo s n).2.2.2.1, (bmTo s n).2.2.2.2) n := rfl
    by_cases h : (n : Int) < (ns : Int)
    · rw [decide_eq_true h, cond_true]
      refine ⟨⟨⟨hn, by omega, c1, b1, by omega⟩, ⟨s0, by omega, by omega, by omega, g0, by omega⟩, hs, cr, br⟩, n + 1, ⟨step_i (by omega), ?_⟩, by omega, by omega⟩
      rw [hst]
      exact ⟨rfl, rfl, rfl, rfl, rfl, rfl, rfl⟩
    · have : n = 20 := by omega
      subst this
      have hc : (bmTo s 20).1 = locC s := rfl
      rw [decide_eq_false h, cond_false]
      rw [hc] at c1 c2 ⊢
      have hB : locB s = (!decide (10 < ((locL (locC s) 127).length : Int)) && decide (synL (locW (locC s) 127) = s)) := by unfold locB; rw [hr, Bool.true_and]
      have hF : locF s = if locB s then locL (locC s) 127 else [] := rfl
      refine ⟨0, ⟨⟨rfl, rfl, locW_zero _, rfl⟩, by omega⟩, fun i hi hw => ?_⟩
      clear hw hst
      have hll := locL_len (locC s) i
      by_cases h2 : (i : Int) < 127
      · rw [decide_eq_true h2, cond_true, w64 (n := 0 - (i : Int)) (by omega) (by omega)]
        have hb : decide (evI (locC s) (xpI (0 - (i : Int))) = 0) = rootB (locC s) i := rfl
        have hs2 := locL_step (locC s) i
        rw [hb]
        refine ⟨by omega, ?_⟩
        cases hrt : rootB (locC s) i with
        | true =>
          rw [hrt, if_pos rfl] at hs2
          rw [cond_true]
          have e1 : seg ((i : Int) :: List.replicate 0 0) 0 1 = [(i : Int)] := rfl
          rw [e1]
          have hone : ([(i : Int)] : List Int).length = 1 := rfl
          rw [hone]
          refine ⟨⟨by first | omega | trivial, by first | omega | trivial⟩, ⟨⟨by first | omega | trivial, by first | omega | trivial⟩, by omega⟩, i + 1, ⟨?_, step_i (by omega), locW_step _ (by omega) hrt, ?_⟩, by omega, by omega⟩
          · rw [hs2, List.length_append]; rfl
          · rw [hs2]; rfl
        | false =>
          rw [hrt, if_neg (by simp)] at hs2
          rw [cond_false]
          exact ⟨i + 1, ⟨by rw [hs2], step_i (by omega), locW_keep _ hrt, hs2.symm⟩, by omega, by omega⟩
      · have : i = 127 := by omega
        subst this
        rw [decide_eq_false h2, cond_false]
        have sl := synL_len (locW (locC s) 127)
        clear h2 hi c1 c2 b1 b2 s0 s1 g0 cr br h hn3 hc
        revert hB hF sl hll
        generalize synL (locW (locC s) 127) = W
        generalize locL (locC s) 127 = q
        generalize locB s = B
        generalize locF s = F
        intro hB hF sl hll
        subst hF
        by_cases h3 : 10 < (q.length : Int)
        · rw [decide_eq_true h3] at hB
          have hB : B = false := hB
          subst hB
          rw [decide_eq_true h3, cond_true]
          exact ⟨fun h => (by cases h), rfl, rfl, rfl⟩
        · rw [decide_eq_false h3] at hB
          rw [decide_eq_false h3, cond_false]
          refine ⟨⟨hll.symm, by omega, hn, hn2⟩, ?_⟩
          by_cases h4 : W = s
          · rw [decide_eq_true h4] at hB
            have hB : B = true := hB
            subst hB
            rw [decide_eq_true h4]
            exact ⟨rfl, rfl, rfl⟩
          · rw [decide_eq_false h4] at hB
            have hB : B = false := hB
            subst hB
            rw [decide_eq_false h4]
            exact ⟨rfl, rfl, rfl⟩
end Go.SL.A

/- Functions do what they are held to do. -/
namespace Go.SL.A
open Go Go.SL Go.SL.S
theorem snd76 : Sound Go.Proofs.Tryd.prog G76 := snd114.add ⟨_, Go.Proofs.Tryd.func118, by kernel_rfl, by kernel_rfl⟩ (by
  intro args ins out h hp
  unfold sp76 at h
  split at h
  · rename_i ns r s
    cases h
    exact vcFun_ok (C := C76) good snd114 Meth.none mix Go.Proofs.Tryd.func118 (ann76 r s ns) (fun hw => by rw [← vc76 r s ns]; exact pure76 r s ns hp)
  · cases h)

end Go.SL.A

/- Amending: plain functions. -/
namespace Go.SL.S
open Go Go.SL
def flipF (c : List Bool) (l : List Int) : List Bool := l.foldl (fun v x => v.set x.toNat (!(bw v x.toNat))) c
abbrev rep7 (b : Bool) : List Bool := List.replicate 127 b
def tryW (w h : List Bool) (b : Bool) : List Bool := flipF (fillB w h (rep7 b)) (locF (synL (fillB w h (rep7 b))))
def tryB (w h : List Bool) (b : Bool) : Bool := locB (synL (fillB w h (rep7 b))) && nearB w h (tryW w h b)
def amI (w h : List Bool) : Int := if tryB w h false then infI (tryW w h false) else if tryB w h true then infI (tryW w h true) else 0
def amE (w h : List Bool) : Int := if tryB w h false then 0 else if tryB w h true then 0 else 5
end Go.SL.S

/- Functions and what they are held to do: bound to their code. -/
namespace Go.SL.A
open Go Go.SL Go.SL.S
set_option maxRecDepth 100000
noncomputable def C71 : Ctx := ⟨Go.Proofs.Tryd.prog, D, G76, (fun _ _ => none), fun _ => []⟩
def ann71 (w h : List Bool) : Nat → St → Option Ann := fun id S => match id with | 0 => some ⟨Nat, [2, 3, 13, 14], [0, 1, 2], fun i => [(15, .v (.int .i64) (i : Int))], fun _ => [], fun i => i ≤ 2 ∧ (1 ≤ i → tryB w h false = false) ∧ (2 ≤ i → tryB w h true = false), fun i => 2 - i⟩ | _ => some ⟨Nat, [2, 3, 13, 14, 15, 8, 31, 32], [0, 1, 2, 5], fun k => [(33, .v (.int .i64) (k : Int))], fun k => [(3, some ⟨false, true, .arr 127 .bool, [flipF (fillB w h (rep7 (S.val 7 .bool))) ((locF (synL (fillB w h (rep7 (S.val 7 .bool))))).take k)]⟩)], fun k => k ≤ (locF (synL (fillB w h (rep7 (S.val 7 .bool))))).length, fun k => (locF (synL (fillB w h (rep7 (S.val 7 .bool))))).length - k⟩
def out71 (w h : List Bool) : COut := ⟨[], .tup [⟨.int .u64, amI w h⟩, ⟨.int .i64, amE w h⟩], [], []⟩
def sp71 : Spec := fun args ins => match args, ins with
  | [⟨.arr 127 .bool, w⟩, ⟨.arr 127 .bool, h⟩], [] => some (out71 w h)
  | _, _ => none
def G71 := addG G76 73 sp71
def P71 (w h : List Bool) : Prop :=
 ∃ (x:Nat),((0=0∧0=0∧0=0∧2=2∧(↑ (2:Nat):Int)=(↑ (2:Nat):Int)∧0=(x:Int)∧w=w∧false=false∧h=h∧false=false∧false :: List.set (List.replicate (nat_lit 1) false) (nat_lit 0) true=List.set (List.set (List.replicate 2 false) (0:Nat) false) (1:Nat)
 true∧false=false)∧x≤2∧(1≤x→tryB w h false=false)∧(2≤x→tryB w h true=false))∧∀ (x:Nat),x≤2∧(1≤x→tryB w h false=false)∧(2≤x→tryB w h true=false)→IntKind.min .i64≤(x:Int)∧(x:Int)≤IntKind.max .i64→bif decide ((x:Int)<(↑ (2:Nat):Int)) then
 ((0≤(x:Int)∧(x:Int)<(↑ (2:Nat):Int))∧0+(x:Int).toNat<2)∧(20=List.length (synL (fillB w h (List.replicate 127 (List.getD (List.set (List.set (List.replicate 2 false) (0:Nat) false) (1:Nat) true) (0+(x:Int).toNat) false))))∧(20:Nat)≤1000000000)∧bif
 !locB (synL (fillB w h (List.replicate 127 (List.getD (List.set (List.set (List.replicate 2 false) (0:Nat) false) (1:Nat) true) (0+(x:Int).toNat) false)))) then ∃ (y:Nat),(0=0∧0=0∧0=0∧2=2∧(↑ (2:Nat):Int)=(↑ (2:Nat):Int)∧IntKind.wrap
 .i64 ((x:Int)+1)=(y:Int)∧w=w∧false=false∧h=h∧false=false∧false :: List.set (List.replicate (nat_lit 1) false) (nat_lit 0) true=List.set (List.set (List.replicate 2 false) (0:Nat) false) (1:Nat) true∧false=false)∧(y≤2∧(1≤y→tryB w h false=false)∧(2≤y→tryB
 w h true=false))∧2 - y<2 - x else ∃ (x_1:Nat),((0=0∧0=0∧0=0∧0=0∧2=2∧(↑ (2:Nat):Int)=(↑ (2:Nat):Int)∧(x:Int)=(x:Int)∧0=0∧List.length (locF (synL (fillB w h (List.replicate 127 (List.getD (List.set (List.set (List.replicate 2 false) (0:Nat)
 false) (1:Nat) true) (0+(x:Int).toNat) false)))))=List.length (locF (synL (fillB w h (List.replicate 127 (List.getD (List.set (List.set (List.replicate 2 false) (0:Nat) false) (1:Nat) true) (0+(x:Int).toNat) false)))))∧(↑ (List.length
 (locF (synL (fillB w h (List.replicate 127 (List.getD (List.set (List.set (List.replicate 2 false) (0:Nat) false) (1:Nat) true) (0+(x:Int).toNat) false)))))):Int)=(↑ (List.length (locF (synL (fillB w h (List.replicate 127 (List.getD
 (List.set (List.set (List.replicate 2 false) (0:Nat) false) (1:Nat) true) (0+(x:Int).toNat) false)))))):Int)∧0=(x_1:Int)∧w=w∧false=false∧h=h∧false=false∧false :: List.set (List.replicate (nat_lit 1) false) (nat_lit 0) true=List.set
 (List.set (List.replicate 2 false) (0:Nat) false) (1:Nat) true∧false=false∧fillB w h (List.replicate 127 (List.getD (List.set (List.set (List.replicate 2 false) (0:Nat) false) (1:Nat) true) (0+(x:Int).toNat) false))=flipF (fillB w h
 (rep7 (List.getD (List.set (List.set (List.replicate 2 false) (0:Nat) false) (1:Nat) true) (0+(x:Int).toNat) false))) (List.take x_1 (locF (synL (fillB w h (rep7 (List.getD (List.set (List.set (List.replicate 2 false) (0:Nat) false)
 (1:Nat) true) (0+(x:Int).toNat) false))))))∧false=false∧locF (synL (fillB w h (List.replicate 127 (List.getD (List.set (List.set (List.replicate 2 false) (0:Nat) false) (1:Nat) true) (0+(x:Int).toNat) false))))=locF (synL (fillB w h
 (List.replicate 127 (List.getD (List.set (List.set (List.replicate 2 false) (0:Nat) false) (1:Nat) true) (0+(x:Int).toNat) false))))∧false=false)∧x_1≤List.length (locF (synL (fillB w h (rep7 (List.getD (List.set (List.set (List.replicate
 2 false) (0:Nat) false) (1:Nat) true) (0+(x:Int).toNat) false))))))∧∀ (x_2:Nat),x_2≤List.length (locF (synL (fillB w h (rep7 (List.getD (List.set (List.set (List.replicate 2 false) (0:Nat) false) (1:Nat) true) (0+(x:Int).toNat) false)))))→(IntKind.min
 .i64≤(x_2:Int)∧(x_2:Int)≤IntKind.max .i64∧∀ (y:List Bool),List.Mem y [flipF (fillB w h (rep7 (List.getD (List.set (List.set (List.replicate 2 false) (0:Nat) false) (1:Nat) true) (0+(x:Int).toNat) false))) (List.take x_2 (locF (synL
 (fillB w h (rep7 (List.getD (List.set (List.set (List.replicate 2 false) (0:Nat) false) (1:Nat) true) (0+(x:Int).toNat) false))))))]→List.length y=127∧∀ (y_1:Bool),List.Mem y_1 y→True)→bif decide ((x_2:Int)<(↑ (List.length (locF (synL
 (fillB w h (List.replicate 127 (List.getD (List.set (List.set (List.replicate 2 false) (0:Nat) false) (1:Nat) true) (0+(x:Int).toNat) false)))))):Int)) then ((0≤(x_2:Int)∧(x_2:Int)<(↑ (List.length (locF (synL (fillB w h (List.replicate
 127 (List.getD (List.set (List.set (List.replicate 2 false) (0:Nat) false) (1:Nat) true) (0+(x:Int).toNat) false)))))):Int))∧0+(x_2:Int).toNat<List.length (locF (synL (fillB w h (List.replicate 127 (List.getD (List.set (List.set (List.replicate
 2 false) (0:Nat) false) (1:Nat) true) (0+(x:Int).toNat) false))))))∧((0≤List.getD (locF (synL (fillB w h (List.replicate 127 (List.getD (List.set (List.set (List.replicate 2 false) (0:Nat) false) (1:Nat) true) (0+(x:Int).toNat) false)))))
 (0+(x_2:Int).toNat) (0:Int)∧List.getD (locF (synL (fillB w h (List.replicate 127 (List.getD (List.set (List.set (List.replicate 2 false) (0:Nat) false) (1:Nat) true) (0+(x:Int).toNat) false))))) (0+(x_2:Int).toNat) (0:Int)<(↑ (127:Nat):Int))∧(List.getD
 (locF (synL (fillB w h (List.replicate 127 (List.getD (List.set (List.set (List.replicate 2 false) (0:Nat) false) (1:Nat) true) (0+(x:Int).toNat) false))))) (0+(x_2:Int).toNat) (0:Int)).toNat<127∧(0≤List.getD (locF (synL (fillB w h
 (List.replicate 127 (List.getD (List.set (List.set (List.replicate 2 false) (0:Nat) false) (1:Nat) true) (0+(x:Int).toNat) false))))) (0+(x_2:Int).toNat) (0:Int)∧List.getD (locF (synL (fillB w h (List.replicate 127 (List.getD (List.set
 (List.set (List.replicate 2 false) (0:Nat) false) (1:Nat) true) (0+(x:Int).toNat) false))))) (0+(x_2:Int).toNat) (0:Int)<(↑ (127:Nat):Int))∧(List.getD (locF (synL (fillB w h (List.replicate 127 (List.getD (List.set (List.set (List.replicate
 2 false) (0:Nat) false) (1:Nat) true) (0+(x:Int).toNat) false))))) (0+(x_2:Int).toNat) (0:Int)).toNat<127)∧∃ (y:Nat),(0=0∧0=0∧0=0∧0=0∧2=2∧(↑ (2:Nat):Int)=(↑ (2:Nat):Int)∧(x:Int)=(x:Int)∧0=0∧List.length (locF (synL (fillB w h (List.replicate
 127 (List.getD (List.set (List.set (List.replicate 2 false) (0:Nat) false) (1:Nat) true) (0+(x:Int).toNat) false)))))=List.length (locF (synL (fillB w h (List.replicate 127 (List.getD (List.set (List.set (List.replicate 2 false) (0:Nat)
 false) (1:Nat) true) (0+(x:Int).toNat) false)))))∧(↑ (List.length (locF (synL (fillB w h (List.replicate 127 (List.getD (List.set (List.set (List.replicate 2 false) (0:Nat) false) (1:Nat) true) (0+(x:Int).toNat) false)))))):Int)=(↑
 (List.length (locF (synL (fillB w h (List.replicate 127 (List.getD (List.set (List.set (List.replicate 2 false) (0:Nat) false) (1:Nat) true) (0+(x:Int).toNat) false)))))):Int)∧IntKind.wrap .i64 ((x_2:Int)+1)=(y:Int)∧w=w∧false=false∧h=h∧false=false∧false
 :: List.set (List.replicate (nat_lit 1) false) (nat_lit 0) true=List.set (List.set (List.replicate 2 false) (0:Nat) false) (1:Nat) true∧false=false∧(List.set (flipF (fillB w h (rep7 (List.getD (List.set (List.set (List.replicate 2 false)
 (0:Nat) false) (1:Nat) true) (0+(x:Int).toNat) false))) (List.take x_2 (locF (synL (fillB w h (rep7 (List.getD (List.set (List.set (List.replicate 2 false) (0:Nat) false) (1:Nat) true) (0+(x:Int).toNat) false))))))) (List.getD (locF
 (synL (fillB w h (List.replicate 127 (List.getD (List.set (List.set (List.replicate 2 false) (0:Nat) false) (1:Nat) true) (0+(x:Int).toNat) false))))) (0+(x_2:Int).toNat) (0:Int)).toNat !List.getD (flipF (fillB w h (rep7 (List.getD
 (List.set (List.set (List.replicate 2 false) (0:Nat) false) (1:Nat) true) (0+(x:Int).toNat) false))) (List.take x_2 (locF (synL (fillB w h (rep7 (List.getD (List.set (List.set (List.replicate 2 false) (0:Nat) false) (1:Nat) true) (0+(x:Int).toNat)
 false))))))) (List.getD (locF (synL (fillB w h (List.replicate 127 (List.getD (List.set (List.set (List.replicate 2 false) (0:Nat) false) (1:Nat) true) (0+(x:Int).toNat) false))))) (0+(x_2:Int).toNat) (0:Int)).toNat false)=flipF (fillB
 w h (rep7 (List.getD (List.set (List.set (List.replicate 2 false) (0:Nat) false) (1:Nat) true) (0+(x:Int).toNat) false))) (List.take y (locF (synL (fillB w h (rep7 (List.getD (List.set (List.set (List.replicate 2 false) (0:Nat) false)
 (1:Nat) true) (0+(x:Int).toNat) false))))))∧false=false∧locF (synL (fillB w h (List.replicate 127 (List.getD (List.set (List.set (List.replicate 2 false) (0:Nat) false) (1:Nat) true) (0+(x:Int).toNat) false))))=locF (synL (fillB w h
 (List.replicate 127 (List.getD (List.set (List.set (List.replicate 2 false) (0:Nat) false) (1:Nat) true) (0+(x:Int).toNat) false))))∧false=false)∧y≤List.length (locF (synL (fillB w h (rep7 (List.getD (List.set (List.set (List.replicate
 2 false) (0:Nat) false) (1:Nat) true) (0+(x:Int).toNat) false)))))∧List.length (locF (synL (fillB w h (rep7 (List.getD (List.set (List.set (List.replicate 2 false) (0:Nat) false) (1:Nat) true) (0+(x:Int).toNat) false))))) - y<List.length
 (locF (synL (fillB w h (rep7 (List.getD (List.set (List.set (List.replicate 2 false) (0:Nat) false) (1:Nat) true) (0+(x:Int).toNat) false))))) - x_2 else bif nearB w h (flipF (fillB w h (rep7 (List.getD (List.set (List.set (List.replicate
 2 false) (0:Nat) false) (1:Nat) true) (0+(x:Int).toNat) false))) (List.take x_2 (locF (synL (fillB w h (rep7 (List.getD (List.set (List.set (List.replicate 2 false) (0:Nat) false) (1:Nat) true) (0+(x:Int).toNat) false))))))) then infI
 (flipF (fillB w h (rep7 (List.getD (List.set (List.set (List.replicate 2 false) (0:Nat) false) (1:Nat) true) (0+(x:Int).toNat) false))) (List.take x_2 (locF (synL (fillB w h (rep7 (List.getD (List.set (List.set (List.replicate 2 false)
 (0:Nat) false) (1:Nat) true) (0+(x:Int).toNat) false)))))))=amI w h∧0=amE w h else ∃ (y:Nat),(0=0∧0=0∧0=0∧2=2∧(↑ (2:Nat):Int)=(↑ (2:Nat):Int)∧IntKind.wrap .i64 ((x:Int)+1)=(y:Int)∧w=w∧false=false∧h=h∧false=false∧false :: List.set (List.replicate
 (nat_lit 1) false) (nat_lit 0) true=List.set (List.set (List.replicate 2 false) (0:Nat) false) (1:Nat) true∧false=false)∧(y≤2∧(1≤y→tryB w h false=false)∧(2≤y→tryB w h true=false))∧2 - y<2 - x else 0=amI w h∧5=amE w h
theorem vc71 (w h : List Bool) : P71 w h = vcFun C71 (ann71 w h) Go.Proofs.Tryd.f73 [⟨.arr 127 .bool, w⟩, ⟨.arr 127 .bool, h⟩] [] (out71 w h) := by kernel_rfl

end Go.SL.A

/- Amending. -/
namespace Go.SL.A
open Go Go.SL Go.SL.S
set_option maxRecDepth 100000

theorem hw71 {a b : List Bool} (hw : Go.SL.allP (List.flatMap (fun a : AV => a.t.wf a.x) [⟨.arr 127 .bool, a⟩, ⟨.arr 127 .bool, b⟩] ++ List.flatMap Blk.wf [])) : a.length = 127 ∧ b.length = 127 := hw109 hw

theorem locF_rng (s : List Int) : (locF s).length ≤ 127 ∧ ∀ x ∈ locF s, 0 ≤ x ∧ x < 127 := by
  unfold locF
  cases locB s with
  | false => simp
  | true =>
    rw [if_pos rfl]
    refine ⟨locL_len _ _, fun x hx => ?_⟩
    unfold locL at hx
    obtain ⟨k, hk, rfl⟩ := List.mem_map.1 hx
    have := List.mem_range.1 (List.mem_filter.1 hk).1
    omega
theorem flip_step (c : List Bool) (l : List Int) {k : Nat} (hk : k < l.length) : List.set (flipF c (List.take k l)) (l.getD k 0).toNat (!(List.getD (flipF c (List.take k l)) (l.getD k 0).toNat false)) = flipF c (List.take (k + 1) l) := by
  rw [take_snoc' (0 : Int) hk]
  unfold flipF
  rw [List.foldl_append]; rfl
theorem amd_next {w h : List Bool} {i : Nat} (hi : i < 2) (h1 : 1 ≤ i → tryB w h false = false) (ht : tryB w h (decide (i = 1)) = false) : i + 1 ≤ 2 ∧ (1 ≤ i + 1 → tryB w h false = false) ∧ (2 ≤ i + 1 → tryB w h true = false) := by
  rcases (show i = 0 ∨ i = 1 by omega) with rfl | rfl
  · exact ⟨by omega, fun _ => ht, fun h => absurd h (by omega)⟩
  · exact ⟨by omega, fun _ => h1 (by omega), fun _ => ht⟩

theorem pure71 (w h : List Bool) (hl : w.length = 127 ∧ h.length = 127) : P71 w h := by
  unfold P71
  simp only [eq_self, true_and, and_true, Int.toNat_natCast, Nat.zero_add]
  refine ⟨0, ⟨⟨rfl, rfl⟩, by omega, by omega, by omega⟩, fun i hi hw => ?_⟩
  clear hw
  obtain ⟨h2, i1, i2⟩ := hi
  by_cases hc : (i : Int) < ((2 : Nat) : Int)
  · have hi2 : i < 2 := by omega
    have hb : List.getD (List.set (List.set (List.replicate 2 false) 0 false) 1 true) i false = decide (i = 1) := by
      rcases (show i = 0 ∨ i = 1 by omega) with rfl | rfl <;> rfl
    have hn := amd_next hi2 i1
    have hT : tryB w h (decide (i = 1)) = (locB (synL (fillB w h (List.replicate 127 (decide (i = 1))))) && nearB w h (tryW w h (decide (i = 1)))) := rfl
    have hW : tryW w h (decide (i = 1)) = flipF (fillB w h (List.replicate 127 (decide (i = 1)))) (locF (synL (fillB w h (List.replicate 127 (decide (i = 1)))))) := rfl
    have hA : tryB w h (decide (i = 1)) = true → infI (tryW w h (decide (i = 1))) = amI w h ∧ 0 = amE w h := by
      intro ht
      unfold amI amE
      rcases (show i = 0 ∨ i = 1 by omega) with rfl | rfl
      · have ht : tryB w h false = true := ht
        rw [ht]; exact ⟨rfl, rfl⟩
      · have ht : tryB w h true = true := ht
        rw [i1 (by omega), ht]; exact ⟨rfl, rfl⟩
    rw [decide_eq_true hc, cond_true, hb]
    generalize decide (i = 1) = b at *
    have sl := synL_len (fillB w h (List.replicate 127 b))
    have fl := fillB_len w h (List.replicate 127 b)
    obtain ⟨lr1, lr2⟩ := locF_rng (synL (fillB w h (List.replicate 127 b)))
    have hs := step_i (i := i) (by omega)
    generalize fillB w h (List.replicate 127 b) = C at *
    generalize locF (synL C) = l at *
    refine ⟨⟨⟨by omega, by omega⟩, by omega⟩, ⟨sl.symm, by omega⟩, ?_⟩
    cases hB : locB (synL C) with
    | false =>
      rw [hB, Bool.false_and] at hT
      rw [Bool.not_false, cond_true]
      obtain ⟨n1, n2, n3⟩ := hn hT
      exact ⟨i + 1, ⟨hs, rfl⟩, ⟨n1, n2, n3⟩, by omega⟩
    | true =>
      rw [hB, Bool.true_and] at hT
      rw [Bool.not_true, cond_false]
      refine ⟨0, ⟨⟨rfl, rfl, rfl⟩, by omega⟩, fun k hk hw => ?_⟩
      clear hw
      by_cases hk2 : (k : Int) < (l.length : Int)
      · have hx := lr2 _ (getD_mem (d := 0) (show k < l.length by omega))
        have hf := flip_step C l (show k < l.length by omega)
        rw [decide_eq_true hk2, cond_true]
        refine ⟨⟨⟨by omega, by omega⟩, by omega⟩, ⟨⟨by omega, by omega⟩, by omega, ⟨by omega, by omega⟩, by omega⟩, k + 1, ⟨step_i (by omega), rfl, hf⟩, by omega, by omega⟩
      · have : k = l.length := by omega
        subst this
        rw [decide_eq_false hk2, cond_false, List.take_length, ← hW]
        cases hN : nearB w h (tryW w h b) with
        | true =>
          rw [cond_true]
          exact hA (by rw [hT, hN])
        | false =>
          rw [cond_false]
          obtain ⟨n1, n2, n3⟩ := hn (by rw [hT, hN])
          exact ⟨i + 1, ⟨hs, rfl⟩, ⟨n1, n2, n3⟩, by omega⟩
  · have : i = 2 := by omega
    subst this
    rw [decide_eq_false hc, cond_false]
    unfold amI amE
    rw [i1 (by omega), i2 (by omega)]
    exact ⟨rfl, rfl⟩
end Go.SL.A

/- Functions do what they are held to do. -/
namespace Go.SL.A
open Go Go.SL Go.SL.S
theorem snd71 : Sound Go.Proofs.Tryd.prog G71 := snd76.add ⟨_, Go.Proofs.Tryd.func73, by kernel_rfl, by kernel_rfl⟩ (by
  intro args ins out h hp
  unfold sp71 at h
  split at h
  · rename_i w h
    cases h
    exact vcFun_ok (C := C71) good snd76 Meth.none mix Go.Proofs.Tryd.func73 (ann71 w h) (fun hw => by rw [← vc71 w h]; exact pure71 w h (hw71 hw))
  · cases h)

end Go.SL.A

/- What a mark carries: plain functions. -/
namespace Go.SL.S
open Go Go.SL
def mayL (p : Int) : Bool := decide (0 ≤ p) && decide (p < 281474976710656)
def bytesP (p : Int) : List Int := (List.range 6).map fun i => p / 256 ^ i % 256
def sumL (k : List Int) (p : Int) : Int := sipF k (bytesOf (bytesP p)) % 65536
def chkF (k : List Int) (p : Int) : Int := if mayL p then sumL k p else -1
def numP (k : List Int) (p : Int) : Int := p + sumL k p * 281474976710656
def layW (k : List Int) (p : Int) : List Bool := if mayL p then encF (numP k p) else w127
def readB (k : List Int) (x : Int) : Bool := decide (x / 281474976710656 = sumL k (x % 281474976710656))
def readI (k : List Int) (x : Int) : Int := if readB k x then x % 281474976710656 else 0
def readL (k : List Int) (x : Int) : Int := if readB k x then 0 else 6
def decW (v : List Int) : List Bool := v.map fun n => decide (n < 0)
def decH (v : List Int) : List Bool := v.map fun n => decide (n = 0)
def takeI (k v : List Int) : Int := if amE (decW v) (decH v) = 0 then readI k (amI (decW v) (decH v)) else 0
def takeE (k v : List Int) : Int := if amE (decW v) (decH v) = 0 then readL k (amI (decW v) (decH v)) else amE (decW v) (decH v)
end Go.SL.S

/- Functions and what they are held to do: bound to their code. -/
namespace Go.SL.A
open Go Go.SL Go.SL.S
set_option maxRecDepth 100000
noncomputable def Cd74 : Ctx := ⟨Go.Proofs.Tryd.prog, D, G71, (fun _ _ => none), fun _ => []⟩
def annd74 (_p : Int) : Nat → St → Option Ann := fun _ _ => none
def outd74 (p : Int) : COut := ⟨[], .v .bool (mayL p), [], []⟩
def spd74 : Spec := fun args ins => match args, ins with
  | [⟨.int .i64, p⟩], [] => some (outd74 p)
  | _, _ => none
def Gd74 := addG G71 154 spd74
def Pd74 (p : Int) : Prop :=
 ∀ (b:Bool),decide (0≤p)=b→((b=true→b=true)∧(b=true→b=true))∧(bif b then decide (p<281474976710656) else false)=mayL p
theorem vcd74 (p : Int) : Pd74 p = vcFun Cd74 (annd74 p) Go.Proofs.Tryd.f154 [⟨.int .i64, p⟩] [] (outd74 p) := by kernel_rfl

noncomputable def Cd41 : Ctx := ⟨Go.Proofs.Tryd.prog, D, Gd74, (fun _ _ => none), fun _ => []⟩
def annd41 (_p : Int) : Nat → St → Option Ann := fun _ _ => none
def outd41 (p : Int) : COut := ⟨[], .v .bool (mayL p), [], []⟩
def spd41 : Spec := fun args ins => match args, ins with
  | [⟨.int .i64, p⟩], [] => some (outd41 p)
  | _, _ => none
def Gd41 := addG Gd74 26 spd41
def Pd41 (p : Int) : Prop :=
 ∀ (b:Bool),decide (0≤p)=b→((b=true→b=true)∧(b=true→b=true))∧(bif b then decide (p<281474976710656) else false)=mayL p
theorem vcd41 (p : Int) : Pd41 p = vcFun Cd41 (annd41 p) Go.Proofs.Tryd.f26 [⟨.int .i64, p⟩] [] (outd41 p) := by kernel_rfl

noncomputable def Cd42 : Ctx := ⟨Go.Proofs.Tryd.prog, D, Gd41, (fun _ _ => none), fun _ => []⟩
def annd42 (_k : List Int) (p : Int) : Nat → St → Option Ann := fun _ _ => some ⟨Nat, [1, 2], [0], fun i => [(10, .v (.int .i64) (i : Int)), (5, .v (.ref .slice) (.slice 1 (.int .u8) [] 0 i))], fun i => [(1, some ⟨false, false, .int .u8, (bytesP p).take i⟩)], fun i => i ≤ 6, fun i => 6 - i⟩
def outd42 (k : List Int) (p : Int) : COut := ⟨[], .v (.int .i64) (chkF k p), [], []⟩
def spd42 : Spec := fun args ins => match args, ins with
  | [⟨.arr 16 (.int .u8), k⟩, ⟨.int .i64, p⟩], [] => some (outd42 k p)
  | _, _ => none
def Gd42 := addG Gd41 122 spd42
def Pd42 (k : List Int) (p : Int) : Prop :=
 bif !mayL p then (-1:Int)=chkF k p else ∃ (x:Nat),((p=p∧0=0∧x=0∧0=(x:Int)∧k=k∧false=false∧List.take x (bytesP p)=[])∧x≤6)∧∀ (x:Nat),x≤6→(IntKind.min .i64≤(x:Int)∧(x:Int)≤IntKind.max .i64∧∀ (y:Int),List.Mem y (List.take x (bytesP p))→IntKind.min
 .u8≤y∧y≤IntKind.max .u8)→bif decide ((x:Int)<6) then (0≤IntKind.wrap .i64 ((8:Int) * (x:Int))∧(1:Nat)≤1∧0+x=List.length (List.take x (bytesP p))∧(x+List.length (seg (IntKind.wrap .u8 (ishr .i64 p (IntKind.wrap .i64 ((8:Int) * (x:Int))))
 :: List.replicate (nat_lit 0) (0:Int)) (0:Nat) (1:Nat))) * 1≤70368744177664)∧∃ (y:Nat),(p=p∧0=0∧0=0∧x+List.length (seg (IntKind.wrap .u8 (ishr .i64 p (IntKind.wrap .i64 ((8:Int) * (x:Int)))) :: List.replicate (nat_lit 0) (0:Int)) (0:Nat)
 (1:Nat))=y∧IntKind.wrap .i64 ((x:Int)+1)=(y:Int)∧k=k∧false=false∧List.append (List.drop (0:Nat) (List.take x (bytesP p))) (seg (IntKind.wrap .u8 (ishr .i64 p (IntKind.wrap .i64 ((8:Int) * (x:Int)))) :: List.replicate (nat_lit 0) (0:Int))
 (0:Nat) (1:Nat))=List.take y (bytesP p)∧false=false)∧y≤6∧6 - y<6 - x else (0+x≤List.length (List.take x (bytesP p))∧ByteArray.size (bytesOf (seg (List.take x (bytesP p)) (0:Nat) x))≤1000000000)∧IntKind.wrap .i64 (iand .u64 (sipF k (bytesOf
 (seg (List.take x (bytesP p)) (0:Nat) x))) (65535:Int))=chkF k p
theorem vcd42 (k : List Int) (p : Int) : Pd42 k p = vcFun Cd42 (annd42 k p) Go.Proofs.Tryd.f122 [⟨.arr 16 (.int .u8), k⟩, ⟨.int .i64, p⟩] [] (outd42 k p) := by kernel_rfl

noncomputable def Cd38 : Ctx := ⟨Go.Proofs.Tryd.prog, D, Gd42, (fun _ _ => none), fun _ => []⟩
def annd38 (_k : List Int) (_x : Int) : Nat → St → Option Ann := fun _ _ => none
def outd38 (k : List Int) (x : Int) : COut := ⟨[], .tup [⟨.int .i64, readI k x⟩, ⟨.int .i64, readL k x⟩], [], []⟩
def spd38 : Spec := fun args ins => match args, ins with
  | [⟨.arr 16 (.int .u8), k⟩, ⟨.int .u64, x⟩], [] => some (outd38 k x)
  | _, _ => none
def Gd38 := addG Gd42 74 spd38
def Pd38 (k : List Int) (x : Int) : Prop :=
 (0:Int)≤48∧bif !decide (ishr .u64 x (48:Int)=IntKind.wrap .u64 (chkF k (IntKind.wrap .i64 (iand .u64 x (281474976710655:Int))))) then 0=readI k x∧6=readL k x else IntKind.wrap .i64 (iand .u64 x (281474976710655:Int))=readI k x∧0=readL
 k x
theorem vcd38 (k : List Int) (x : Int) : Pd38 k x = vcFun Cd38 (annd38 k x) Go.Proofs.Tryd.f74 [⟨.arr 16 (.int .u8), k⟩, ⟨.int .u64, x⟩] [] (outd38 k x) := by kernel_rfl

noncomputable def Cd43 : Ctx := ⟨Go.Proofs.Tryd.prog, D, Gd38, (fun _ _ => none), fun _ => []⟩
def annd43 (v : List Int) : Nat → St → Option Ann := fun _ _ => some ⟨Nat, [2, 3, 4, 5, 8], [1, 2], fun i => [(9, .v (.int .i64) (i : Int))], fun i => [(3, some ⟨false, true, .arr 127 .bool, [(decW v).take i ++ (List.replicate 127 false).drop i]⟩), (4, some ⟨false, true, .arr 127 .bool, [(decH v).take i ++ (List.replicate 127 false).drop i]⟩)], fun i => i ≤ 127, fun i => 127 - i⟩
def outd43 (v : List Int) : COut := ⟨[], .tup [⟨.arr 127 .bool, decW v⟩, ⟨.arr 127 .bool, decH v⟩], [], []⟩
def spd43 : Spec := fun args ins => match args, ins with
  | [⟨.arr 127 (.int .i64), v⟩], [] => some (outd43 v)
  | _, _ => none
def Gd43 := addG Gd38 25 spd43
def Pd43 (v : List Int) : Prop :=
 ∃ (x:Nat),((0=0∧0=0∧0=0∧0=0∧v=v∧0=(x:Int)∧false :: List.replicate (nat_lit 126) false=List.replicate 127 false∧false=false∧false :: List.replicate (nat_lit 126) false=List.replicate 127 false∧false=false∧false :: List.replicate (nat_lit
 126) false=List.take x (decW v) ++ List.drop x (List.replicate 127 false)∧false=false∧false :: List.replicate (nat_lit 126) false=List.take x (decH v) ++ List.drop x (List.replicate 127 false)∧false=false)∧x≤127)∧∀ (x:Nat),x≤127→(IntKind.min
 .i64≤(x:Int)∧(x:Int)≤IntKind.max .i64∧(∀ (y:List Bool),List.Mem y [List.take x (decW v) ++ List.drop x (List.replicate 127 false)]→List.length y=127∧∀ (y_1:Bool),List.Mem y_1 y→True)∧∀ (y:List Bool),List.Mem y [List.take x (decH v)
 ++ List.drop x (List.replicate 127 false)]→List.length y=127∧∀ (y_1:Bool),List.Mem y_1 y→True)→bif decide ((x:Int)<127) then (0≤(x:Int)∧(x:Int)<(↑ (127:Nat):Int))∧((0≤(x:Int)∧(x:Int)<(↑ (127:Nat):Int))∧(x:Int).toNat<127∧(0≤(x:Int)∧(x:Int)<(↑
 (127:Nat):Int))∧(x:Int).toNat<127)∧∃ (y:Nat),(0=0∧0=0∧0=0∧0=0∧v=v∧IntKind.wrap .i64 ((x:Int)+1)=(y:Int)∧false :: List.replicate (nat_lit 126) false=List.replicate 127 false∧false=false∧false :: List.replicate (nat_lit 126) false=List.replicate
 127 false∧false=false∧List.set (List.take x (decW v) ++ List.drop x (List.replicate 127 false)) (x:Int).toNat (decide (List.getD v (x:Int).toNat (0:Int)<0))=List.take y (decW v) ++ List.drop y (List.replicate 127 false)∧false=false∧List.set
 (List.take x (decH v) ++ List.drop x (List.replicate 127 false)) (x:Int).toNat (decide (List.getD v (x:Int).toNat (0:Int)=0))=List.take y (decH v) ++ List.drop y (List.replicate 127 false)∧false=false)∧y≤127∧127 - y<127 - x else List.append
 (List.take x (decW v)) (List.drop x (List.replicate 127 false))=decW v∧List.append (List.take x (decH v)) (List.drop x (List.replicate 127 false))=decH v
theorem vcd43 (v : List Int) : Pd43 v = vcFun Cd43 (annd43 v) Go.Proofs.Tryd.f25 [⟨.arr 127 (.int .i64), v⟩] [] (outd43 v) := by kernel_rfl

noncomputable def Cd36 : Ctx := ⟨Go.Proofs.Tryd.prog, D, Gd43, (fun _ _ => none), fun _ => []⟩
def annd36 (_k _v : List Int) : Nat → St → Option Ann := fun _ _ => none
def outd36 (k v : List Int) : COut := ⟨[], .tup [⟨.int .i64, takeI k v⟩, ⟨.int .i64, takeE k v⟩], [], []⟩
def spd36 : Spec := fun args ins => match args, ins with
  | [⟨.arr 16 (.int .u8), k⟩, ⟨.arr 127 (.int .i64), v⟩], [] => some (outd36 k v)
  | _, _ => none
def Gd36 := addG Gd43 37 spd36
def Pd36 (k v : List Int) : Prop :=
 bif !decide (amE (decW v) (decH v)=0) then 0=takeI k v∧amE (decW v) (decH v)=takeE k v else readI k (amI (decW v) (decH v))=takeI k v∧readL k (amI (decW v) (decH v))=takeE k v
theorem vcd36 (k v : List Int) : Pd36 k v = vcFun Cd36 (annd36 k v) Go.Proofs.Tryd.f37 [⟨.arr 16 (.int .u8), k⟩, ⟨.arr 127 (.int .i64), v⟩] [] (outd36 k v) := by kernel_rfl

noncomputable def Cd39 : Ctx := ⟨Go.Proofs.Tryd.prog, D, Gd36, (fun _ _ => none), fun _ => []⟩
def annd39 (_k : List Int) (p : Int) : Nat → St → Option Ann := fun _ _ => some ⟨Nat, [2], [0], fun i => [(6, .v (.int .i64) (i : Int)), (1, .v (.int .i64) (p / 256 ^ i)), (5, .v .str (bytesOf ((bytesP p).take i)))], fun _ => [], fun i => i ≤ 6, fun i => 6 - i⟩
def outd39 (k : List Int) (p : Int) : COut := ⟨[mayL p = true], .v (.int .i64) (sumL k p), [], []⟩
def spd39 : Spec := fun args ins => match args, ins with
  | [⟨.arr 16 (.int .u8), k⟩, ⟨.int .i64, p⟩], [] => some (outd39 k p)
  | _, _ => none
def Gd39 := addG Gd36 51 spd39
def Pd39 (k : List Int) (p : Int) : Prop :=
 ∃ (x:Nat),((p=p / 256 ^ x∧0=0∧{data := {toList := []}}=bytesOf (List.take x (bytesP p))∧0=(x:Int)∧k=k∧false=false)∧x≤6)∧∀ (x:Nat),x≤6→IntKind.min .i64≤(x:Int)∧(x:Int)≤IntKind.max .i64∧IntKind.min .i64≤p / 256 ^ x∧p / 256 ^ x≤IntKind.max
 .i64∧ByteArray.size (bytesOf (List.take x (bytesP p)))≤9223372036854775807→bif decide ((x:Int)<6) then ((256:Int)≠0∧(1:Nat)≤1∧ByteArray.size (bytesOf (List.take x (bytesP p)))+ByteArray.size (bytesOf (seg (IntKind.wrap .u8 (Int.tmod
 (p / 256 ^ x) (256:Int)) :: List.replicate (nat_lit 0) (0:Int)) (0:Nat) (1:Nat)))≤9223372036854775807)∧(256:Int)≠0∧∃ (y:Nat),(IntKind.wrap .i64 (Int.tdiv (p / 256 ^ x) (256:Int))=p / 256 ^ y∧0=0∧ByteArray.append (bytesOf (List.take
 x (bytesP p))) (bytesOf (seg (IntKind.wrap .u8 (Int.tmod (p / 256 ^ x) (256:Int)) :: List.replicate (nat_lit 0) (0:Int)) (0:Nat) (1:Nat)))=bytesOf (List.take y (bytesP p))∧IntKind.wrap .i64 ((x:Int)+1)=(y:Int)∧k=k∧false=false)∧y≤6∧6
 - y<6 - x else (ByteArray.size (bytesOf (List.take x (bytesP p)))≤1000000000∧(65536:Int)≠0)∧IntKind.wrap .i64 (Int.tmod (sipF k (bytesOf (List.take x (bytesP p)))) (65536:Int))=sumL k p
theorem vcd39 (k : List Int) (p : Int) : Pd39 k p = vcFun Cd39 (annd39 k p) Go.Proofs.Tryd.f51 [⟨.arr 16 (.int .u8), k⟩, ⟨.int .i64, p⟩] [] (outd39 k p) := by kernel_rfl

noncomputable def Cd33 : Ctx := ⟨Go.Proofs.Tryd.prog, D, Gd39, (fun _ _ => none), fun _ => []⟩
def annd33 (_k : List Int) (_p : Int) : Nat → St → Option Ann := fun _ _ => none
def outd33 (k : List Int) (p : Int) : COut := ⟨[mayL p = true], .v (.arr 127 .bool) (encF (numP k p)), [], []⟩
def spd33 : Spec := fun args ins => match args, ins with
  | [⟨.arr 16 (.int .u8), k⟩, ⟨.int .i64, p⟩], [] => some (outd33 k p)
  | _, _ => none
def Gd33 := addG Gd39 20 spd33
def Pd33 (k : List Int) (p : Int) : Prop :=
 mayL p=true∧encF (IntKind.wrap .u64 (IntKind.wrap .u64 p+IntKind.wrap .u64 ((281474976710656:Int) * IntKind.wrap .u64 (sumL k p))))=encF (numP k p)
theorem vcd33 (k : List Int) (p : Int) : Pd33 k p = vcFun Cd33 (annd33 k p) Go.Proofs.Tryd.f20 [⟨.arr 16 (.int .u8), k⟩, ⟨.int .i64, p⟩] [] (outd33 k p) := by kernel_rfl

end Go.SL.A

/- What a mark carries. -/
namespace Go.SL.A
open Go Go.SL Go.SL.S
set_option maxRecDepth 100000

theorem mayL_iff {p : Int} (h : mayL p = true) : 0 ≤ p ∧ p < 281474976710656 := by
  unfold mayL at h
  rw [Bool.and_eq_true, decide_eq_true_eq, decide_eq_true_eq] at h
  exact h
theorem mayL_of {p : Int} (h : 0 ≤ p ∧ p < 281474976710656) : mayL p = true := by
  unfold mayL
  rw [decide_eq_true h.1, decide_eq_true h.2]; rfl
theorem sumL_fit (k : List Int) (p : Int) : 0 ≤ sumL k p ∧ sumL k p < 65536 := by unfold sumL; omega
theorem bytesP_len (p : Int) : (bytesP p).length = 6 := by simp [bytesP]
theorem bytesP_at (p : Int) {i : Nat} (hi : i < 6) : (bytesP p).getD i 0 = p / 256 ^ i % 256 := by
  unfold bytesP
  rw [List.getD_eq_getElem?_getD, List.getElem?_map, List.getElem?_range hi]; rfl
theorem bytes_step (p : Int) {i : Nat} (hi : i < 6) : (bytesP p).take i ++ [p / 256 ^ i % 256] = (bytesP p).take (i + 1) := by
  rw [take_snoc' (0 : Int) (by rw [bytesP_len]; exact hi), bytesP_at p hi]
theorem pured74 (p : Int) : Pd74 p := by
  unfold Pd74
  rintro _ rfl
  refine ⟨⟨fun h => h, fun h => h⟩, ?_⟩
  unfold mayL
  cases decide ((0 : Int) ≤ p) <;> rfl
theorem pured41 (p : Int) : Pd41 p := by
  unfold Pd41
  rintro _ rfl
  refine ⟨⟨fun h => h, fun h => h⟩, ?_⟩
  unfold mayL
  cases decide ((0 : Int) ≤ p) <;> rfl

theorem pured42 (k : List Int) (p : Int) : Pd42 k p := by
  unfold Pd42
  cases hB : mayL p with
  | false =>
    rw [Bool.not_false, cond_true]
    unfold chkF; rw [hB]; rfl
  | true =>
    have hp := mayL_iff hB
    rw [Bool.not_true, cond_false]
    simp only [eq_self, true_and, and_true, Nat.zero_add, sg1, List.length_singleton, List.length_take, bytesP_len]
    refine ⟨0, ⟨⟨rfl, rfl, rfl⟩, by omega⟩, fun i hi hw => ?_⟩
    clear hw
    by_cases h : (i : Int) < 6
    · have e : IntKind.i64.wrap (8 * (i : Int)) = 8 * (i : Int) := w64 (by omega) (by omega)
      rw [decide_eq_true h, cond_true, e, shr_byte p (by omega)]
      refine ⟨⟨by omega, by omega, by omega, by omega⟩, i + 1, ⟨rfl, step_i (by omega), ?_⟩, by omega, by omega⟩
      show List.drop 0 (List.take i (bytesP p)) ++ [p / 256 ^ i % 256] = _
      rw [List.drop_zero, bytes_step p (by omega)]
    · have : i = 6 := by omega
      subst this
      have e1 : seg (List.take 6 (bytesP p)) 0 6 = bytesP p := by
        unfold seg
        rw [List.drop_zero, List.take_take, List.take_of_length_le (by rw [bytesP_len]; exact Nat.le_refl _)]
      have hs := sip_fit k (bytesOf (bytesP p))
      rw [decide_eq_false h, cond_false, e1, size_of, bytesP_len, iand16 _ hs, w64 (by omega) (by omega)]
      refine ⟨⟨by omega, by omega⟩, ?_⟩
      unfold chkF; rw [hB]; rfl

theorem hwd38 {k : List Int} {x : Int} (hw : Go.SL.allP (List.flatMap (fun a : AV => a.t.wf a.x) [⟨.arr 16 (.int .u8), k⟩, ⟨.int .u64, x⟩] ++ List.flatMap Blk.wf [])) : 0 ≤ x ∧ x < 18446744073709551616 := by
  simp only [List.flatMap_cons, List.flatMap_nil, Ty.wf, List.append_nil, List.cons_append, List.nil_append, Go.SL.allP] at hw
  have h1 : (0 : Int) ≤ x := hw.2.2.1
  have h2 : x ≤ 18446744073709551615 := hw.2.2.2
  omega
theorem pured38 (k : List Int) (x : Int) (hx : 0 ≤ x ∧ x < 18446744073709551616) : Pd38 k x := by
  unfold Pd38
  have hm : mayL (x % 281474976710656) = true := mayL_of (by omega)
  have hc : chkF k (x % 281474976710656) = sumL k (x % 281474976710656) := by unfold chkF; rw [hm]; rfl
  have hs := sumL_fit k (x % 281474976710656)
  rw [iand48 x hx, w64 (n := x % 281474976710656) (by omega) (by omega), shr48 hx.1, hc, w_u64 hs.1 (by omega)]
  refine ⟨by decide, ?_⟩
  have hB : readB k x = decide (x / 281474976710656 = sumL k (x % 281474976710656)) := rfl
  by_cases h : x / 281474976710656 = sumL k (x % 281474976710656)
  · rw [decide_eq_true h] at hB
    rw [decide_eq_true h, Bool.not_true, cond_false]
    unfold readI readL
    rw [hB]; exact ⟨rfl, rfl⟩
  · rw [decide_eq_false h] at hB
    rw [decide_eq_false h, Bool.not_false, cond_true]
    unfold readI readL
    rw [hB]; exact ⟨rfl, rfl⟩

theorem hwd43 {v : List Int} (hw : Go.SL.allP (List.flatMap (fun a : AV => a.t.wf a.x) [⟨.arr 127 (.int .i64), v⟩] ++ List.flatMap Blk.wf [])) : v.length = 127 := by
  simp only [List.flatMap_cons, List.flatMap_nil, Ty.wf, List.append_nil, List.cons_append, List.nil_append, Go.SL.allP] at hw
  exact hw.1
theorem dec_step (f : Int → Bool) {v : List Int} (hl : v.length = 127) {i : Nat} (hi : i < 127) : List.set (List.take i (v.map f) ++ List.drop i (List.replicate 127 false)) i (f (v.getD i 0)) = List.take (i + 1) (v.map f) ++ List.drop (i + 1) (List.replicate 127 false) :=
  set_step (by rw [List.length_map]; omega) (by rw [List.length_replicate]; exact hi) (by
    rw [List.getElem?_map, List.getD_eq_getElem?_getD, List.getElem?_eq_getElem (by omega)]; rfl)
theorem dec_end (f : Int → Bool) {v : List Int} (hl : v.length = 127) : List.take 127 (v.map f) ++ List.drop 127 (List.replicate 127 false) = v.map f := by
  rw [List.take_of_length_le (by rw [List.length_map]; omega), List.drop_eq_nil_of_le (by rw [List.length_replicate]; omega), List.append_nil]
theorem pured43 (v : List Int) (hl : v.length = 127) : Pd43 v := by
  unfold Pd43
  have z : false :: List.replicate 126 false = List.replicate 127 false := rfl
  simp only [eq_self, true_and, and_true, z, Int.toNat_natCast]
  refine ⟨0, ⟨⟨rfl, rfl, rfl⟩, by omega⟩, fun i hi hw => ?_⟩
  clear hw
  by_cases h : (i : Int) < 127
  · rw [decide_eq_true h, cond_true]
    exact ⟨⟨by omega, by omega⟩, ⟨⟨by omega, by omega⟩, by omega, ⟨by omega, by omega⟩, by omega⟩, i + 1, ⟨step_i (by omega), dec_step (fun n => decide (n < 0)) hl (by omega), dec_step (fun n => decide (n = 0)) hl (by omega)⟩, by omega, by omega⟩
  · have : i = 127 := by omega
    subst this
    rw [decide_eq_false h, cond_false]
    exact ⟨dec_end _ hl, dec_end _ hl⟩

theorem pured36 (k v : List Int) : Pd36 k v := by
  unfold Pd36
  by_cases h : amE (decW v) (decH v) = 0
  · rw [decide_eq_true h, Bool.not_true, cond_false]
    unfold takeI takeE
    rw [if_pos h, if_pos h]; exact ⟨rfl, rfl⟩
  · rw [decide_eq_false h, Bool.not_false, cond_true]
    unfold takeI takeE
    rw [if_neg h, if_neg h]; exact ⟨rfl, rfl⟩

theorem pured39 (k : List Int) (p : Int) (hB : mayL p = true) : Pd39 k p := by
  unfold Pd39
  have hp := mayL_iff hB
  simp only [eq_self, true_and, and_true, sg1, size_of, List.length_singleton, List.length_take, bytesP_len, bytes_append]
  refine ⟨0, ⟨⟨by rw [Int.pow_zero, Int.ediv_one], rfl, rfl⟩, by omega⟩, fun i hi hw => ?_⟩
  clear hw
  by_cases h : (i : Int) < 6
  · have hq : 0 ≤ p / 256 ^ i ∧ p / 256 ^ i ≤ p := ⟨Int.ediv_nonneg hp.1 (Int.le_of_lt (pow256 i)), Int.ediv_le_self _ hp.1⟩
    have hnext : p / 256 ^ (i + 1) = p / 256 ^ i / 256 := by rw [Int.pow_succ, Int.ediv_ediv_of_nonneg (Int.le_of_lt (pow256 i))]
    have hst := bytes_step p (i := i) (by omega)
    rw [decide_eq_true h, cond_true]
    generalize p / 256 ^ i = q at *
    have d := tdm q (k := 256) (by decide)
    have e1 : IntKind.u8.wrap (q.tmod 256) = q % 256 := by rw [wrap_u8]; omega
    have e2 : IntKind.i64.wrap (q.tdiv 256) = q / 256 := by rw [w64 (by omega) (by omega)]; omega
    rw [e1, e2]
    exact ⟨⟨by decide, by omega, by omega⟩, by decide, i + 1, ⟨hnext.symm, congrArg bytesOf hst, step_i (by omega)⟩, by omega, by omega⟩
  · have : i = 6 := by omega
    subst this
    have hs := sip_fit k (bytesOf (bytesP p))
    have e1 : List.take 6 (bytesP p) = bytesP p := List.take_of_length_le (by rw [bytesP_len]; exact Nat.le_refl _)
    have d := tdm (sipF k (bytesOf (bytesP p))) (k := 65536) (by decide)
    rw [decide_eq_false h, cond_false, e1]
    unfold sumL
    refine ⟨⟨by omega, by decide⟩, ?_⟩
    rw [w64 (by omega) (by omega)]; omega

theorem pured33 (k : List Int) (p : Int) (hB : mayL p = true) : Pd33 k p := by
  unfold Pd33
  have hp := mayL_iff hB
  have hs := sumL_fit k p
  rw [w_u64 hs.1 (by omega), w_u64 (x := 281474976710656 * sumL k p) (by omega) (by omega), w_u64 hp.1 (by omega), w_u64 (by omega) (by omega)]
  refine ⟨hB, ?_⟩
  unfold numP
  rw [Int.mul_comm]
end Go.SL.A

/- Functions do what they are held to do. -/
namespace Go.SL.A
open Go Go.SL Go.SL.S
theorem sndd74 : Sound Go.Proofs.Tryd.prog Gd74 := snd71.add ⟨_, Go.Proofs.Tryd.func154, by kernel_rfl, by kernel_rfl⟩ (by
  intro args ins out h hp
  unfold spd74 at h
  split at h
  · rename_i p
    cases h
    exact vcFun_ok (C := Cd74) good snd71 Meth.none mix Go.Proofs.Tryd.func154 (annd74 p) (fun hw => by rw [← vcd74 p]; exact pured74 p)
  · cases h)

theorem sndd41 : Sound Go.Proofs.Tryd.prog Gd41 := sndd74.add ⟨_, Go.Proofs.Tryd.func26, by kernel_rfl, by kernel_rfl⟩ (by
  intro args ins out h hp
  unfold spd41 at h
  split at h
  · rename_i p
    cases h
    exact vcFun_ok (C := Cd41) good sndd74 Meth.none mix Go.Proofs.Tryd.func26 (annd41 p) (fun hw => by rw [← vcd41 p]; exact pured41 p)
  · cases h)

theorem sndd42 : Sound Go.Proofs.Tryd.prog Gd42 := sndd41.add ⟨_, Go.Proofs.Tryd.func122, by kernel_rfl, by kernel_rfl⟩ (by
  intro args ins out h hp
  unfold spd42 at h
  split at h
  · rename_i k p
    cases h
    exact vcFun_ok (C := Cd42) good sndd41 Meth.none mix Go.Proofs.Tryd.func122 (annd42 k p) (fun hw => by rw [← vcd42 k p]; exact pured42 k p)
  · cases h)

theorem sndd38 : Sound Go.Proofs.Tryd.prog Gd38 := sndd42.add ⟨_, Go.Proofs.Tryd.func74, by kernel_rfl, by kernel_rfl⟩ (by
  intro args ins out h hp
  unfold spd38 at h
  split at h
  · rename_i k x
    cases h
    exact vcFun_ok (C := Cd38) good sndd42 Meth.none mix Go.Proofs.Tryd.func74 (annd38 k x) (fun hw => by rw [← vcd38 k x]; exact pured38 k x (hwd38 hw))
  · cases h)

theorem sndd43 : Sound Go.Proofs.Tryd.prog Gd43 := sndd38.add ⟨_, Go.Proofs.Tryd.func25, by kernel_rfl, by kernel_rfl⟩ (by
  intro args ins out h hp
  unfold spd43 at h
  split at h
  · rename_i v
    cases h
    exact vcFun_ok (C := Cd43) good sndd38 Meth.none mix Go.Proofs.Tryd.func25 (annd43 v) (fun hw => by rw [← vcd43 v]; exact pured43 v (hwd43 hw))
  · cases h)

theorem sndd36 : Sound Go.Proofs.Tryd.prog Gd36 := sndd43.add ⟨_, Go.Proofs.Tryd.func37, by kernel_rfl, by kernel_rfl⟩ (by
  intro args ins out h hp
  unfold spd36 at h
  split at h
  · rename_i k v
    cases h
    exact vcFun_ok (C := Cd36) good sndd43 Meth.none mix Go.Proofs.Tryd.func37 (annd36 k v) (fun hw => by rw [← vcd36 k v]; exact pured36 k v)
  · cases h)

theorem sndd39 : Sound Go.Proofs.Tryd.prog Gd39 := sndd36.add ⟨_, Go.Proofs.Tryd.func51, by kernel_rfl, by kernel_rfl⟩ (by
  intro args ins out h hp
  unfold spd39 at h
  split at h
  · rename_i k p
    cases h
    exact vcFun_ok (C := Cd39) good sndd36 Meth.none mix Go.Proofs.Tryd.func51 (annd39 k p) (fun hw => by rw [← vcd39 k p]; exact pured39 k p hp)
  · cases h)

theorem sndd33 : Sound Go.Proofs.Tryd.prog Gd33 := sndd39.add ⟨_, Go.Proofs.Tryd.func20, by kernel_rfl, by kernel_rfl⟩ (by
  intro args ins out h hp
  unfold spd33 at h
  split at h
  · rename_i k p
    cases h
    exact vcFun_ok (C := Cd33) good sndd39 Meth.none mix Go.Proofs.Tryd.func20 (annd33 k p) (fun hw => by rw [← vcd33 k p]; exact pured33 k p hp)
  · cases h)

end Go.SL.A

/- Codewords: plain facts. -/
namespace Go.SL.A
open Go Go.SL Go.SL.S
set_option maxRecDepth 100000

theorem sy_xor (a b : Nat → Bool) (k : Nat) : sy (fun i => a i != b i) k = sy a k ^^^ sy b k := by
  unfold sy
  rw [← xs_xor]
  refine xs_congr fun i _ => ?_
  show (if (a i != b i) = true then ex (i * k) else 0) = (if a i = true then ex (i * k) else 0) ^^^ (if b i = true then ex (i * k) else 0)
  cases a i <;> cases b i <;> simp
theorem sy_congr {a b : Nat → Bool} (h : ∀ i, i < 127 → a i = b i) (k : Nat) : sy a k = sy b k := by
  unfold sy
  exact xs_congr fun i hi => by rw [h i hi]
/-- A codeword: its sums at the twenty powers are 0. -/
def cw (a : Nat → Bool) : Prop := ∀ k, k < 20 → sy a (k + 1) = 0
theorem cw_xor {a b : Nat → Bool} (ha : cw a) (hb : cw b) : cw (fun i => a i != b i) := fun k hk => by
  rw [sy_xor, ha k hk, hb k hk]; rfl
theorem synL_getD (w : List Bool) {k : Nat} (hk : k < 20) : (synL w).getD k 0 = ofE (sy (bw w) (k + 1)) := synTo_getD w 127 hk
theorem isB_cw (w : List Bool) : isB w = true ↔ cw (bw w) := by
  unfold isB
  rw [List.all_eq_true]
  constructor
  · intro h k hk
    have hm := getD_mem (d := 0) (show k < (synL w).length by rw [synL_len]; exact hk)
    have h1 := of_decide_eq_true (h _ hm)
    rw [synL_getD w hk] at h1
    have h2 := congrArg toE h1
    rw [toE_ofE] at h2
    exact h2
  · intro h x hx
    have hx : x ∈ (List.range 20).map fun j => ofE (sy (bw w) (j + 1)) := hx
    obtain ⟨j, hj, rfl⟩ := List.mem_map.1 hx
    rw [h j (List.mem_range.1 hj)]
    decide

/-- Two codewords that are near are the same. -/
theorem cw_far {a b : Nat → Bool} (ha : cw a) (hb : cw b) (h : cn 127 (fun i => a i != b i) ≤ 20) : ∀ i, i < 127 → a i = b i := by
  intro i hi
  have hv := vander 127 (Nat.le_refl _) 20 (fun i => if (a i != b i) = true then ex i else 0) (Nat.le_trans (cn_le fun j _ hj => by
      cases hd : (a j != b j) with
      | true => rfl
      | false => rw [hd] at hj; simp at hj) h) (fun k hk => by
      have e := cw_xor ha hb k hk
      unfold sy at e
      refine (xs_congr fun j _ => ?_).trans e
      show ml (if (a j != b j) = true then ex j else 0) (ex (j * k)) = if (a j != b j) = true then ex (j * (k + 1)) else 0
      split
      · rw [ml_exex, Nat.mul_succ, Nat.add_comm]
      · exact zero_ml _) i hi
  cases hd : (a i != b i) with
  | false => simpa using hd
  | true =>
    simp only [hd, if_true] at hv
    exact absurd hv (ex_ne i)

/-! ### Squares -/
theorem sq_xor (a b : E) : ml (a ^^^ b) (a ^^^ b) = ml a a ^^^ ml b b := by
  rw [ml_xor, xor_ml, xor_ml, ml_comm b a, BitVec.xor_assoc, xor_sl]
theorem sq_xs (f : Nat → E) : ∀ n, ml (xs n f) (xs n f) = xs n (fun i => ml (f i) (f i))
  | 0 => zero_ml _
  | n + 1 => by
    show ml (xs n f ^^^ f n) (xs n f ^^^ f n) = xs n (fun i => ml (f i) (f i)) ^^^ ml (f n) (f n)
    rw [sq_xor, sq_xs f n]
theorem sy_sq (w : Nat → Bool) (k : Nat) : sy w (k * 2) = ml (sy w k) (sy w k) := by
  unfold sy
  rw [sq_xs]
  refine xs_congr fun i _ => ?_
  show (if w i = true then ex (i * (k * 2)) else 0) = ml (if w i = true then ex (i * k) else 0) (if w i = true then ex (i * k) else 0)
  cases w i with
  | false => exact (zero_ml _).symm
  | true =>
    show ex (i * (k * 2)) = ml (ex (i * k)) (ex (i * k))
    rw [ml_exex, ← Nat.mul_assoc, Nat.mul_two]
theorem sy_pow {w : Nat → Bool} {k : Nat} (h : sy w k = 0) : ∀ j, sy w (k * 2 ^ j) = 0
  | 0 => by rw [Nat.pow_zero, Nat.mul_one]; exact h
  | j + 1 => by rw [Nat.pow_succ, ← Nat.mul_assoc, sy_sq, sy_pow h j, zero_ml]
theorem sy_mod (w : Nat → Bool) (m : Nat) : sy w (m % 127) = sy w m := by
  unfold sy
  refine xs_congr fun i _ => ?_
  have e : ex (i * (m % 127)) = ex (i * m) := by
    rw [← ex_mod (i * (m % 127)), ← ex_mod (i * m), Nat.mul_mod_mod]
  rw [e]

def rts : List Nat := (List.range 127).filter fun m => (List.range 140).any fun r => decide ((r / 7 + 1) * 2 ^ (r % 7) % 127 = m)
theorem rts_len : rts.length = 63 := by decide +kernel
theorem cw_rts {w : Nat → Bool} (h : cw w) : ∀ m ∈ rts, sy w m = 0 := by
  intro m hm
  obtain ⟨_, h2⟩ := List.mem_filter.1 hm
  obtain ⟨r, hr, e⟩ := List.any_eq_true.1 h2
  have e := of_decide_eq_true e
  rw [← e, sy_mod]
  exact sy_pow (h (r / 7) (by have := List.mem_range.1 hr; omega)) _
theorem rts_nodup : (rts.map ex).Nodup := by
  rw [List.Nodup, List.pairwise_map]
  have hnd : rts.Nodup := List.Pairwise.filter _ List.nodup_range
  refine List.Pairwise.imp_of_mem ?_ hnd
  intro a b ha hb hab e
  exact hab (ex_inj (List.mem_range.1 (List.mem_filter.1 ha).1) (List.mem_range.1 (List.mem_filter.1 hb).1) e)

/-- A codeword whose last 64 bits are 0 is 0. -/
theorem cw_top {w : Nat → Bool} (h : cw w) (ht : ∀ i, 63 ≤ i → i < 127 → w i = false) : ∀ i, i < 127 → w i = false := by
  obtain ⟨p, hp0⟩ : ∃ p : List E, p = (List.range 63).map fun i => if w i = true then (1 : E) else 0 := ⟨_, rfl⟩
  have hl : p.length = 63 := by rw [hp0]; simp
  have hp : ∀ m, evl p (ex m) = sy w m := fun m => by
    rw [evl_xs, hl]
    unfold sy
    rw [xs_more (n := 63) (m := 127) (by omega) fun i h1 h2 => by rw [ht i h1 h2]; rfl]
    refine xs_congr fun j hj => ?_
    have e : p.getD j 0 = if w j = true then 1 else 0 := by
      rw [hp0, List.getD_eq_getElem?_getD, List.getElem?_map, List.getElem?_range hj]; rfl
    rw [e, Nat.mul_comm]
    split
    · exact ml_one _
    · exact zero_ml _
  have hz := roots_le (rts.map ex) p rts_nodup (by rw [List.length_map, rts_len, hl]; exact Nat.le_refl _) (fun x hx => by
    obtain ⟨m, hm, rfl⟩ := List.mem_map.1 hx
    rw [hp]; exact cw_rts h m hm)
  intro i hi
  by_cases h63 : i < 63
  · have := hz (if w i = true then 1 else 0) (by rw [hp0]; exact List.mem_map.2 ⟨i, List.mem_range.2 h63, rfl⟩)
    cases hw : w i with
    | false => rfl
    | true => rw [hw] at this; exact absurd this (by decide)
  · exact ht i (by omega) hi
theorem cw_eq {a b : Nat → Bool} (ha : cw a) (hb : cw b) (h : ∀ i, 63 ≤ i → i < 127 → a i = b i) : ∀ i, i < 127 → a i = b i := fun i hi => by
  have h1 : (a i != b i) = false := cw_top (cw_xor ha hb) (fun i h1 h2 => by
    show (a i != b i) = false
    rw [h i h1 h2]; cases b i <;> rfl) i hi
  simpa using h1

/-! ### What is encoded is a codeword -/
def shG (s i : Nat) : Bool := decide (s ≤ i ∧ i < s + 64) && genB (i - s)
theorem shG_cw {s : Nat} (hs : s ≤ 63) : cw (shG s) := by
  intro k hk
  have hz := of_decide_eq_true (List.all_eq_true.1 gen_zero k (List.mem_range.2 hk))
  rw [evl_xs, List.length_map, genF_len] at hz
  unfold sy
  have e := xs_shift (fun i => if shG s i = true then ex (i * (k + 1)) else 0) s (127 - s) (fun i hi => by
    have h0 : shG s i = false := by unfold shG; rw [decide_eq_false (by omega)]; rfl
    rw [h0]; rfl)
  rw [show 127 - s + s = 127 by omega] at e
  rw [e, xs_more (n := 64) (m := 127 - s) (by omega) fun i h1 h2 => by
    have h0 : shG s (i + s) = false := by unfold shG; rw [decide_eq_false (by omega)]; rfl
    rw [h0]; rfl]
  have e2 : ∀ i, i < 64 → (if shG s (i + s) = true then ex ((i + s) * (k + 1)) else 0) = ml (ex (s * (k + 1))) (ml ((genF.map toE).getD i 0) (ex ((k + 1) * i))) := fun i hi => by
    have h1 : shG s (i + s) = genB i := by unfold shG; rw [decide_eq_true (by omega), Bool.true_and, Nat.add_sub_cancel]
    have h2 : (genF.map toE).getD i 0 = if genB i = true then 1 else 0 := by
      rw [map_toE_getD (by rw [genF_len]; exact hi), genF_num]
      cases genB i <;> rfl
    rw [h1, h2]
    cases genB i with
    | false =>
      rw [if_neg (by simp), if_neg (by simp), zero_ml, ml_zero]
    | true =>
      rw [if_pos rfl, if_pos rfl, ml_one, ml_exex, Nat.add_mul, Nat.add_comm, Nat.mul_comm (k + 1) i]
  rw [xs_congr e2, ← xs_ml, hz, ml_zero]

theorem div_top (x : Int) (n : Nat) : n ≤ 64 → ∀ i, 127 - n ≤ i → i < 127 → bw (divTo x n) i = false := by
  induction n with
  | zero => intro _ i h1 h2; omega
  | succ n ih =>
    intro hn i h1 h2
    have ih := ih (by omega)
    rw [divTo]
    split
    · rename_i hb
      rw [xorP_bw _ _ _ h2]
      by_cases e : i = 126 - n
      · have hg : genB 63 = true := by unfold genB; rw [gen_last]; rfl
        rw [if_pos (by omega), e, hb, show 126 - n - (63 - n) = 63 by omega, hg]; rfl
      · rw [if_neg (by omega)]; exact ih i (by omega) h2
    · rename_i hb
      by_cases e : i = 126 - n
      · rw [e]; simpa using hb
      · exact ih i (by omega) h2
theorem xorP_sh (r : List Bool) (s : Nat) {i : Nat} (hi : i < 127) : bw (xorP r s 64) i = (bw r i != shG s i) := by
  rw [xorP_bw _ _ _ hi]
  unfold shG
  by_cases h : s ≤ i ∧ i < s + 64
  · rw [if_pos h, decide_eq_true h, Bool.true_and]
  · rw [if_neg h, decide_eq_false h, Bool.false_and]; cases bw r i <;> rfl
theorem div_sy (x : Int) {k : Nat} (hk : k < 20) (n : Nat) : n ≤ 64 → sy (bw (divTo x n)) (k + 1) = sy (bw (encW x)) (k + 1) := by
  induction n with
  | zero => intro _; rfl
  | succ n ih =>
    intro hn
    rw [divTo]
    split
    · rw [sy_congr (fun i hi => xorP_sh (divTo x n) (63 - n) hi), sy_xor, shG_cw (by omega) k hk, xz, ih (by omega)]
    · exact ih (by omega)
theorem encW_bw (x : Int) {i : Nat} (hi : i < 127) : bw (encW x) i = (decide (63 ≤ i ∧ i < 127) && bitX x (i - 63)) := by
  unfold bw encW
  rw [List.getD_eq_getElem?_getD, encTo_at x 64 hi]; rfl
theorem enc_len (x : Int) : (encF x).length = 127 := by
  unfold encF encW
  rw [List.length_append, List.length_take, List.length_drop, divTo_len, encTo_len]; rfl
theorem enc_low (x : Int) {i : Nat} (hi : i < 63) : bw (encF x) i = bw (divTo x 64) i := by
  unfold encF bw
  rw [List.getD_eq_getElem?_getD, List.getElem?_append_left (by rw [List.length_take, divTo_len]; omega), List.getElem?_take, if_pos hi, ← List.getD_eq_getElem?_getD]
theorem enc_high (x : Int) {i : Nat} (h1 : 63 ≤ i) : bw (encF x) i = bw (encW x) i := by
  unfold encF bw
  have hl : ((divTo x 64).take 63).length = 63 := by rw [List.length_take, divTo_len]; rfl
  rw [List.getD_eq_getElem?_getD, List.getElem?_append_right (by rw [hl]; exact h1), List.getElem?_drop, hl, show 63 + (i - 63) = i by omega, ← List.getD_eq_getElem?_getD]
theorem enc_bw (x : Int) {i : Nat} (hi : i < 127) : bw (encF x) i = (bw (divTo x 64) i != bw (encW x) i) := by
  by_cases h : i < 63
  · rw [enc_low x h, encW_bw x hi, decide_eq_false (by omega), Bool.false_and]; cases bw (divTo x 64) i <;> rfl
  · rw [enc_high x (by omega), div_top x 64 (Nat.le_refl _) i (by omega) hi]; cases bw (encW x) i <;> rfl
theorem enc_cw (x : Int) : cw (bw (encF x)) := fun k hk => by
  rw [sy_congr (fun i hi => enc_bw x hi), sy_xor, div_sy x hk 64 (Nat.le_refl _), BitVec.xor_self]; rfl
theorem enc_top (x : Int) {i : Nat} (h1 : 63 ≤ i) (h2 : i < 127) : bw (encF x) i = bitX x (i - 63) := by
  rw [enc_high x h1, encW_bw x h2, decide_eq_true ⟨h1, h2⟩, Bool.true_and]

/-! ### What a codeword tells -/
theorem pow_pos2 (n : Nat) : (0 : Int) < 2 ^ n := Int.pow_pos (by decide)
theorem bit_add (a c : Int) (j : Nat) : bitX (a + 2 * c * 2 ^ j) j = bitX a j := by
  unfold bitX
  rw [Int.add_mul_ediv_right _ _ (Int.ne_of_gt (pow_pos2 j)), Int.add_mul_emod_self_left]
theorem info_bit (w : List Bool) (n : Nat) : ∀ j, j < n → bitX (infTo w n) j = bw w (63 + j) := by
  induction n with
  | zero => intro j hj; omega
  | succ n ih =>
    intro j hj
    have hf := infTo_fit w n
    show bitX (infTo w n + (if bw w (63 + n) = true then 2 ^ n else 0)) j = _
    by_cases e : j = n
    · subst e
      have h0 : infTo w j / 2 ^ j = 0 := Int.ediv_eq_zero_of_lt hf.1 hf.2
      cases hb : bw w (63 + j) with
      | false =>
        rw [if_neg (by simp), Int.add_zero]
        unfold bitX; rw [h0]; rfl
      | true =>
        rw [if_pos rfl]
        unfold bitX
        have := Int.add_mul_ediv_right (infTo w j) 1 (Int.ne_of_gt (pow_pos2 j))
        rw [Int.one_mul] at this
        rw [this, h0]; rfl
    · cases hb : bw w (63 + n) with
      | false => rw [if_neg (by simp), Int.add_zero]; exact ih j (by omega)
      | true =>
        obtain ⟨m, rfl⟩ : ∃ m, n = m + 1 + j := ⟨n - j - 1, by omega⟩
        rw [if_pos rfl]
        have e2 : (2 : Int) ^ (m + 1 + j) = 2 * 2 ^ m * 2 ^ j := by rw [Int.pow_add, Int.pow_succ, Int.mul_comm (2 ^ m) 2]
        rw [e2, bit_add]
        exact ih j (by omega)
theorem bw_ext {a b : List Bool} (ha : a.length = 127) (hb : b.length = 127) (h : ∀ i, i < 127 → bw a i = bw b i) : a = b := by
  refine List.ext_getElem? fun i => ?_
  by_cases hi : i < 127
  · have := h i hi
    unfold bw at this
    rw [List.getD_eq_getElem?_getD, List.getD_eq_getElem?_getD, List.getElem?_eq_getElem (by omega), List.getElem?_eq_getElem (by omega)] at this
    rw [List.getElem?_eq_getElem (by omega), List.getElem?_eq_getElem (by omega)]
    exact congrArg some this
  · rw [List.getElem?_eq_none (by omega), List.getElem?_eq_none (by omega)]
theorem enc_info {c : List Bool} (hl : c.length = 127) (hc : cw (bw c)) : encF (infI c) = c := by
  refine bw_ext (enc_len _) hl (cw_eq (enc_cw _) hc fun i h1 h2 => ?_)
  rw [enc_top _ h1 h2]
  have := info_bit c 64 (i - 63) (by omega)
  rw [show 63 + (i - 63) = i by omega] at this
  exact this
theorem info_enc {x : Int} (hx : 0 ≤ x ∧ x ≤ 18446744073709551615) : infI (encF x) = x := by
  have all : ∀ n, n ≤ 64 → infTo (encF x) n + 2 ^ n * (x / 2 ^ n) = x := by
    intro n
    induction n with
    | zero => intro _; rw [infTo, Int.pow_zero, Int.ediv_one, Int.one_mul, Int.zero_add]
    | succ n ih =>
      intro hn
      have ih := ih (by omega)
      have hb : bw (encF x) (63 + n) = decide (x / 2 ^ n % 2 = 1) := by
        rw [enc_top x (by omega) (by omega), show 63 + n - 63 = n by omega]; rfl
      have hq : x / 2 ^ (n + 1) = x / 2 ^ n / 2 := by rw [Int.pow_succ, Int.ediv_ediv_of_nonneg (Int.le_of_lt (pow_pos2 n))]
      rw [infTo, hb, hq, Int.pow_succ]
      generalize (2 : Int) ^ n = P at *
      generalize x / P = q at *
      have e : q = 2 * (q / 2) + q % 2 := by omega
      have hm : P * q = P * 2 * (q / 2) + P * (q % 2) := by
        conv => lhs; rw [e, Int.mul_add, ← Int.mul_assoc]
      rcases (show q % 2 = 0 ∨ q % 2 = 1 by omega) with h | h
      · rw [h, Int.mul_zero, Int.add_zero] at hm
        rw [h, if_neg (by simp), Int.add_zero, ← hm]; exact ih
      · rw [h, Int.mul_one] at hm
        rw [h, if_pos (by simp), Int.add_assoc, Int.add_comm P, ← hm]; exact ih
  have h64 := all 64 (Nat.le_refl _)
  have p64 : (2 : Int) ^ 64 = 18446744073709551616 := by decide
  have e : x / 2 ^ 64 = 0 := Int.ediv_eq_zero_of_lt hx.1 (by rw [p64]; omega)
  rw [e, Int.mul_zero, Int.add_zero] at h64
  exact h64
theorem info_fit (w : List Bool) : 0 ≤ infI w ∧ infI w ≤ 18446744073709551615 := by
  have := infTo_fit w 64
  have e : (2 : Int) ^ 64 = 18446744073709551616 := by decide
  rw [e] at this
  unfold infI
  omega
end Go.SL.A

/- The search finds few errors: plain facts. -/
namespace Go.SL.A
open Go Go.SL Go.SL.S
set_option maxRecDepth 100000

def cf (c : List Int) (i : Nat) : E := toE (c.getD i 0)
theorem cf_none {c : List Int} {i : Nat} (h : c.length ≤ i) : cf c i = 0 := by
  unfold cf; rw [List.getD_eq_getElem?_getD, List.getElem?_eq_none h]; rfl
def tS (w : List Bool) : Nat → E := one0 (sy (bw w))
theorem tS_at (w : List Bool) {k : Nat} (hk : k < 20) : tS w (k + 1) = toE ((synL w).getD k 0) := by
  rw [synL_getD w hk, toE_ofE]
  unfold tS one0
  rw [if_neg (by omega)]

theorem disc_sum {w : List Bool} {c : List Int} {n : Nat} (hn : n < 20) (h0 : cf c 0 = 1) (k : Nat) : k ≤ n → toE (discTo c (synL w) n k) = xs (k + 1) fun i => ml (cf c i) (tS w (n + 1 - i)) := by
  induction k with
  | zero =>
    intro _
    show toE ((synL w).getD n 0) = 0 ^^^ ml (cf c 0) (tS w (n + 1))
    rw [h0, ml_one, zx, tS_at w hn]
  | succ k ih =>
    intro hk
    show toE (ofE (toE (discTo c (synL w) n k) ^^^ ml (cf c (k + 1)) (toE ((synL w).getD (n - (k + 1)) 0)))) = xs (k + 1) (fun i => ml (cf c i) (tS w (n + 1 - i))) ^^^ ml (cf c (k + 1)) (tS w (n + 1 - (k + 1)))
    rw [toE_ofE, ih (by omega), show n + 1 - (k + 1) = n - (k + 1) + 1 by omega, tS_at w (by omega)]
theorem disc_cv {w : List Bool} {c : List Int} {n L : Nat} (hn : n < 20) (h0 : cf c 0 = 1) (hd : ∀ i, L < i → cf c i = 0) (hL : L ≤ n) : toE (discF c (synL w) L n) = cv (cf c) (tS w) (n + 1) := by
  unfold discF cv
  rw [disc_sum hn h0 _ (by omega)]
  symm
  refine xs_more (by omega) fun i h1 h2 => ?_
  have e : cf c i = 0 := by
    by_cases h : L < i
    · exact hd i h
    · exact cf_none (by omega)
  rw [e, zero_ml]

theorem inv_ml {a : Int} (h : toE a ≠ 0) : ml (toE (invI a)) (toE a) = 1 := by
  have e := ex_lg h
  have hl := lg_fit h
  have : ml (ex ((127 - lgN (toE a)) % 127)) (ex (lgN (toE a))) = 1 := by
    rw [ml_exex]
    by_cases h0 : lgN (toE a) = 0
    · rw [h0]; rfl
    · rw [Nat.mod_eq_of_lt (by omega), show 127 - lgN (toE a) + lgN (toE a) = 127 by omega, ex127]
  rw [e] at this
  unfold invI
  rw [if_neg h, toE_ofE]
  exact this

theorem padI_getD (c : List Int) (n j : Nat) : (padI c n).getD j 0 = c.getD j 0 := by
  unfold padI
  rw [List.getD_eq_getElem?_getD, List.getD_eq_getElem?_getD]
  by_cases h : j < c.length
  · rw [List.getElem?_append_left h]
  · rw [List.getElem?_append_right (by omega), List.getElem?_eq_none (l := c) (by omega), List.getElem?_replicate]
    split <;> rfl
theorem growI_cf (c b : List Int) (g : Nat) (a : Int) : cf (growI c b g a) = S.grow (cf c) (cf b) g (toE a) := by
  funext i
  unfold S.grow
  by_cases h : i < max c.length (b.length + g)
  · have e := growP_getD (padI c (b.length + g)) b g a b.length (j := i) (by rw [padI_len]; exact h)
    rw [padI_getD] at e
    show toE ((growP (padI c (b.length + g)) b g a b.length).getD i 0) = _
    rw [e]
    by_cases h2 : g ≤ i ∧ i < g + b.length
    · rw [if_pos h2, toE_ofE, if_neg (by omega)]; rfl
    · rw [if_neg h2]
      show cf c i = _
      by_cases h3 : i < g
      · rw [if_pos h3, xz]
      · rw [if_neg h3, cf_none (c := b) (by omega), ml_zero, xz]
  · rw [cf_none (c := growI c b g a) (by rw [growI_len]; omega), cf_none (c := c) (by omega), if_neg (by omega), cf_none (c := b) (by omega), ml_zero]; rfl

structure BJ (w : List Bool) (n : Nat) (x : BS) : Prop where
  bm : BM (tS w) (n + 1) (cf x.1) (cf x.2.1) x.2.2.1.toNat (n - x.2.2.2.1.toNat) (toE x.2.2.2.2)
  g0 : 0 ≤ x.2.2.2.1
  g1 : x.2.2.2.1 ≤ n
  s0 : 0 ≤ x.2.2.1
  s1 : x.2.2.1 ≤ n
  few : x.2.2.1.toNat ≤ cn 127 (bw w)

theorem BJ.init (w : List Bool) : BJ w 0 ([1], [1], 0, 0, 1) where
  bm := {
    c0 := rfl
    cdeg := fun i hi => cf_none (c := [1]) hi
    cgen := fun k h1 h2 => by
      have : (0 : Int).toNat = 0 := rfl
      simp only at h1
      omega
    LM := Nat.le_refl 0
    MN := Nat.lt_succ_self 0
    bdeg := fun i hi => cf_none (c := [1]) hi
    bgen := fun k h1 h2 => absurd h2 (Nat.not_lt_zero k)
    bdis := by
      show (0 : E) ^^^ ml 1 1 = 1
      rw [ml_one, zx]
    ln := by decide }
  g0 := by decide
  g1 := by decide
  s0 := by decide
  s1 := by decide
  few := Nat.zero_le _

theorem synL_rng (w : List Bool) : ∀ x ∈ synL w, 0 ≤ x ∧ x < 128 := fun x hx => by
  have hx : x ∈ (List.range 20).map fun j => ofE (sy (bw w) (j + 1)) := hx
  obtain ⟨j, hj, rfl⟩ := List.mem_map.1 hx
  exact ofE_fit _

theorem BJ.step {w : List Bool} {n : Nat} {x : BS} (h : BJ w n x) (hn : n < 20) : BJ w (n + 1) (stepI (synL w) x n) := by
  obtain ⟨bm, g0, g1, s0, s1, few⟩ := h
  obtain ⟨c, b, size, gap, last⟩ := x
  simp only at bm g0 g1 s0 s1 few
  have hdr := disc_rng (synL_rng w) c n (min size.toNat (c.length - 1))
  have hdd : discTo c (synL w) n (min size.toNat (c.length - 1)) = discF c (synL w) size.toNat n := rfl
  rw [hdd] at hdr
  have hd := disc_cv (w := w) hn bm.c0 bm.cdeg (show size.toNat ≤ n by omega)
  have st : stepI (synL w) (c, b, size, gap, last) n = if discF c (synL w) size.toNat n = 0 then (c, b, size, gap + 1, last)
    else if 2 * size ≤ (n : Int) then (growI c b (gap + 1).toNat (mlI (discF c (synL w) size.toNat n) (invI last)), c, (n : Int) + 1 - size, 0, discF c (synL w) size.toNat n)
    else (growI c b (gap + 1).toNat (mlI (discF c (synL w) size.toNat n) (invI last)), b, size, gap + 1, last) := rfl
  rw [st]
  clear st hdd
  generalize discF c (synL w) size.toNat n = d at *
  have ha : ml (toE (mlI d (invI last))) (toE last) = cv (cf c) (tS w) (n + 1) := by
    unfold mlI
    rw [toE_ofE, ml_assoc, inv_ml bm.ln, ml_comm, ml_one, hd]
  have hg := growI_cf c b (gap + 1).toNat (mlI d (invI last))
  generalize mlI d (invI last) = a at *
  have eg : (gap + 1).toNat = n + 1 - (n - gap.toNat) := by omega
  by_cases d0 : d = 0
  · rw [if_pos d0]
    have hz : cv (cf c) (tS w) (n + 1) = 0 := by rw [← hd, d0]; rfl
    have em : n + 1 - (gap + 1).toNat = n - gap.toNat := by omega
    refine ⟨?_, by simp only; omega, by simp only; omega, s0, by simp only; omega, few⟩
    simp only
    rw [em]
    exact bm.same hz
  · rw [if_neg d0]
    have hnz : cv (cf c) (tS w) (n + 1) ≠ 0 := by
      intro e
      rw [e] at hd
      exact d0 (by rw [← ofE_toE hdr, hd]; rfl)
    by_cases h2 : 2 * size ≤ (n : Int)
    · rw [if_pos h2]
      have hb := bm.grow ha hnz (by omega)
      have hf := few_len bm.cdeg bm.cgen (by omega) hnz
      have es : ((n : Int) + 1 - size).toNat = n + 1 - size.toNat := by omega
      refine ⟨?_, by simp only; omega, by simp only; omega, by simp only; omega, by simp only; omega, ?_⟩
      · simp only
        rw [hg, es, hd, eg]
        exact hb
      · simp only
        rw [es]; exact hf
    · rw [if_neg h2]
      have hb := bm.keep ha (by omega)
      have em : n + 1 - (gap + 1).toNat = n - gap.toNat := by omega
      refine ⟨?_, by simp only; omega, by simp only; omega, s0, by simp only; omega, few⟩
      simp only
      rw [em, hg, eg]
      exact hb
theorem bm_few (w : List Bool) (n : Nat) : n ≤ 20 → BJ w n (bmTo (synL w) n) := by
  induction n with
  | zero => intro _; exact BJ.init w
  | succ n ih => intro hn; exact (ih (by omega)).step (by omega)

/-! ### Roots -/
theorem toE_xp {k : Nat} (hk : k < 127) : toE (xpI (0 - (k : Int))) = ex (pt k) := by
  unfold xpI
  rw [toE_ofE]
  unfold pt
  congr 1
  omega
theorem evI_ev : ∀ (c : List Int) (x : Int), toE (evI c x) = evl (c.map toE) (toE x)
  | [], _ => rfl
  | a :: p, x => by
    show toE (ofE (ml (toE (evI p x)) (toE x) ^^^ toE a)) = toE a ^^^ ml (toE x) (evl (p.map toE) (toE x))
    rw [toE_ofE, evI_ev p x, ml_comm, BitVec.xor_comm]
theorem evI_zero (c : List Int) (x : Int) : evI c x = 0 ↔ toE (evI c x) = 0 :=
  ⟨fun h => by rw [h]; rfl, fun h => by rw [← ofE_toE (evI_fit c x), h]; rfl⟩
theorem evl_cf (c : List Int) (m : Nat) : evl (c.map toE) (ex m) = xs c.length fun j => ml (cf c j) (ex (m * j)) := by
  rw [evl_xs, List.length_map]
  exact xs_congr fun j hj => by rw [map_toE_getD hj]; rfl
theorem xs_both {f : Nat → E} {n m : Nat} (h1 : ∀ i, n ≤ i → f i = 0) (h2 : ∀ i, m ≤ i → f i = 0) : xs n f = xs m f := by
  rcases Nat.le_total n m with h | h
  · exact (xs_more h fun i a _ => h1 i a).symm
  · exact xs_more h fun i a _ => h2 i a
theorem root_few {w : List Bool} (hc : cn 127 (bw w) ≤ 10) {k : Nat} (hk : k < 127) : rootB (locC (synL w)) k = bw w k := by
  have h := bm_few w 20 (Nat.le_refl _)
  have hb := h.bm
  have hf := h.few
  have ec : (bmTo (synL w) 20).1 = locC (synL w) := rfl
  rw [ec] at hb
  generalize locC (synL w) = c at *
  generalize (bmTo (synL w) 20).2.2.1.toNat = L at *
  have hr := few_roots hb.c0 hb.cdeg hb.cgen (by omega) hf hk
  have e : evI c (xpI (0 - (k : Int))) = 0 ↔ bw w k = true := by
    rw [evI_zero, evI_ev, toE_xp hk, evl_cf, ← hr, xs_both (m := L + 1) (fun i hi => by rw [cf_none hi, zero_ml]) (fun i hi => by rw [hb.cdeg i hi, zero_ml])]
  unfold rootB
  rw [Bool.eq_iff_iff, decide_eq_true_iff]
  exact e

/-- Places. -/
def plc (p : Nat → Bool) (n : Nat) : List Int := ((List.range n).filter p).map fun k : Nat => (k : Int)
theorem plc_len (p : Nat → Bool) (n : Nat) : (plc p n).length = cn n p := by unfold plc; rw [List.length_map, cn_filter]
theorem plc_step (p : Nat → Bool) (n : Nat) : plc p (n + 1) = if p n = true then plc p n ++ [(n : Int)] else plc p n := by
  unfold plc
  rw [List.range_succ, List.filter_append, List.map_append]
  cases h : p n <;> simp [h]
theorem right_syn (w : List Bool) : rightS (synL w) = true := by
  unfold rightS
  rw [synL_len, Bool.and_eq_true]
  refine ⟨by decide, ?_⟩
  rw [Bool.not_eq_true', List.any_eq_false]
  intro x hx
  have := synL_rng w x hx
  unfold badS
  rw [decide_eq_false (by omega), decide_eq_false (by omega)]
  simp
theorem locL_congr {c : List Int} {p : Nat → Bool} {n : Nat} (h : ∀ k, k < n → rootB c k = p k) : locL c n = plc p n := by
  unfold locL plc
  rw [List.filter_congr fun k hk => h k (List.mem_range.1 hk)]
/-- Few places are found. -/
theorem loc_few {w : List Bool} (hl : w.length = 127) (hc : cn 127 (bw w) ≤ 10) : locB (synL w) = true ∧ locF (synL w) = plc (bw w) 127 := by
  have hr : ∀ k, k < 127 → rootB (locC (synL w)) k = bw w k := fun k hk => root_few hc hk
  have hL : locL (locC (synL w)) 127 = plc (bw w) 127 := locL_congr hr
  have hW : locW (locC (synL w)) 127 = w := bw_ext (locW_len _ _) hl fun k hk => by
    unfold bw
    rw [List.getD_eq_getElem?_getD, locW_at _ _ hk, decide_eq_true hk, Bool.true_and, hr k hk]; rfl
  have hB : locB (synL w) = true := by
    unfold locB
    have h1 : decide (synL w = synL w) = true := decide_eq_true rfl
    have h2 : decide (10 < (cn 127 (bw w) : Int)) = false := decide_eq_false (by omega)
    rw [right_syn, hL, hW, plc_len, h1, h2]; rfl
  refine ⟨hB, ?_⟩
  unfold locF
  rw [hB, if_pos rfl, hL]
end Go.SL.A

/- Near codewords are found: plain facts. -/
namespace Go.SL.A
open Go Go.SL Go.SL.S
set_option maxRecDepth 100000

/-! ### How far -/
theorem far_cn (w h c : List Bool) (n : Nat) : farTo6 w h c n = 2 * (cn n (fun i => !bw h i && (bw w i != bw c i)) : Int) + (cn n (bw h) : Int) := by
  induction n with
  | zero => rfl
  | succ n ih =>
    show farTo6 w h c n + (if bw h n = true then 1 else if bw w n = bw c n then 0 else 2) = 2 * ((cn n (fun i => !bw h i && (bw w i != bw c i)) + (if (!bw h n && (bw w n != bw c n)) = true then 1 else 0) : Nat) : Int) + ((cn n (bw h) + (if bw h n = true then 1 else 0) : Nat) : Int)
    rw [ih]
    generalize cn n (fun i => !bw h i && (bw w i != bw c i)) = a
    generalize cn n (bw h) = b
    cases bw h n <;> cases bw w n <;> cases bw c n <;> simp <;> omega
theorem w127_bw {i : Nat} (hi : i < 127) : bw w127 i = false := rep_bw false hi
theorem rep7_bw (b : Bool) {i : Nat} (hi : i < 127) : bw (rep7 b) i = b := rep_bw b hi
theorem dist_holes (h : List Bool) : distB h w127 = (cn 127 (bw h) : Int) := by
  unfold distB neqN
  rw [cn_congr (q := bw h) fun i hi => by rw [w127_bw hi]; cases bw h i <;> rfl]
theorem dist_fill (w h c : List Bool) : distB (fillB w h c) c = (cn 127 (fun i => !bw h i && (bw w i != bw c i)) : Int) := by
  unfold distB neqN
  rw [cn_congr (q := fun i => !bw h i && (bw w i != bw c i)) fun i hi => by
    show (bw (fillB w h c) i != bw c i) = (!bw h i && (bw w i != bw c i))
    rw [fillB_bw w h c hi]
    cases bw h i <;> cases bw w i <;> cases bw c i <;> rfl]
theorem near_far (w h c : List Bool) : nearB w h c = (isB c && decide (far6 w h c ≤ 20)) := by
  unfold nearB far6
  rw [dist_holes, dist_fill, far_cn]
theorem near_enc (w h : List Bool) (x : Int) : nearB w h (encF x) = decide (far6 w h (encF x) ≤ 20) := by
  rw [near_far, (isB_cw _).2 (enc_cw x), Bool.true_and]

theorem near_uniq {w h a b : List Bool} (la : a.length = 127) (lb : b.length = 127) (ha : nearB w h a = true) (hb : nearB w h b = true) : a = b := by
  rw [near_far, Bool.and_eq_true, decide_eq_true_eq] at ha hb
  obtain ⟨ca, fa⟩ := ha
  obtain ⟨cb, fb⟩ := hb
  unfold far6 at fa fb
  rw [far_cn] at fa fb
  have h1 := cn_sub (fun i => !bw h i && (bw w i != bw b i)) (bw h) (fun i => (!bw h i && (bw w i != bw b i)) || bw h i) (n := 127) fun i hi hr => by
    have hr : ((!bw h i && (bw w i != bw b i)) || bw h i) = true := hr
    rwa [Bool.or_eq_true] at hr
  have h2 := cn_sub (fun i => !bw h i && (bw w i != bw a i)) (fun i => (!bw h i && (bw w i != bw b i)) || bw h i) (fun i => bw a i != bw b i) (n := 127) fun i hi hr => by
    have hr : (bw a i != bw b i) = true := hr
    show (!bw h i && (bw w i != bw a i)) = true ∨ ((!bw h i && (bw w i != bw b i)) || bw h i) = true
    revert hr
    cases bw h i <;> cases bw w i <;> cases bw a i <;> cases bw b i <;> simp
  exact bw_ext la lb (cw_far ((isB_cw _).1 ca) ((isB_cw _).1 cb) (by omega))

/-! ### Flips -/
theorem flip_snoc (c : List Bool) (l : List Int) (x : Int) : flipF c (l ++ [x]) = (flipF c l).set x.toNat (!(bw (flipF c l) x.toNat)) := by
  unfold flipF; rw [List.foldl_append]; rfl
theorem set_bw (w : List Bool) (i k : Nat) (b : Bool) (hl : w.length = 127) (hi : i < 127) : bw (w.set i b) k = if i = k then b else bw w k := by
  unfold bw
  rw [List.getD_eq_getElem?_getD, List.getElem?_set]
  by_cases e : i = k
  · rw [if_pos e, if_pos (by omega), if_pos e]; rfl
  · rw [if_neg e, if_neg e, ← List.getD_eq_getElem?_getD]
theorem flip_plc (c : List Bool) (hl : c.length = 127) (p : Nat → Bool) (n : Nat) : n ≤ 127 → (flipF c (plc p n)).length = 127 ∧ ∀ k, bw (flipF c (plc p n)) k = if k < n ∧ p k = true then !bw c k else bw c k := by
  induction n with
  | zero => intro _; exact ⟨hl, fun k => by rw [if_neg (by omega)]; rfl⟩
  | succ n ih =>
    intro hn
    obtain ⟨il, ih⟩ := ih (by omega)
    rw [plc_step]
    cases hp : p n with
    | false =>
      rw [if_neg (by simp)]
      refine ⟨il, fun k => ?_⟩
      rw [ih k]
      by_cases h : k < n ∧ p k = true
      · rw [if_pos h, if_pos ⟨by omega, h.2⟩]
      · rw [if_neg h, if_neg]
        rintro ⟨h1, h2⟩
        by_cases e : k = n
        · rw [e, hp] at h2; cases h2
        · exact h ⟨by omega, h2⟩
    | true =>
      rw [if_pos rfl, flip_snoc, Int.toNat_natCast]
      refine ⟨by rw [List.length_set]; exact il, fun k => ?_⟩
      rw [set_bw _ _ _ _ il (by omega)]
      by_cases e : n = k
      · subst e
        rw [if_pos rfl, if_pos ⟨by omega, hp⟩, ih n, if_neg (by omega)]
      · rw [if_neg e, ih k]
        by_cases h : k < n ∧ p k = true
        · rw [if_pos h, if_pos ⟨by omega, h.2⟩]
        · rw [if_neg h, if_neg]
          rintro ⟨h1, h2⟩
          exact h ⟨by omega, h2⟩

theorem locF_cases (s : List Int) : locF s = [] ∨ locF s = plc (rootB (locC s)) 127 := by
  unfold locF
  cases locB s with
  | false => left; rfl
  | true => right; rfl
theorem tryW_len (w h : List Bool) (b : Bool) : (tryW w h b).length = 127 := by
  unfold tryW
  rcases locF_cases (synL (fillB w h (rep7 b))) with e | e
  · rw [e]; exact fillB_len _ _ _
  · rw [e]; exact (flip_plc _ (fillB_len _ _ _) _ 127 (Nat.le_refl _)).1

/-! ### A try -/
def difB (a b : List Bool) : List Bool := (List.range 127).map fun i => bw a i != bw b i
theorem difB_len (a b : List Bool) : (difB a b).length = 127 := by simp [difB]
theorem difB_bw (a b : List Bool) {i : Nat} (hi : i < 127) : bw (difB a b) i = (bw a i != bw b i) := by
  unfold difB
  show ((List.range 127).map fun i => bw a i != bw b i).getD i false = _
  rw [List.getD_eq_getElem?_getD, List.getElem?_map, List.getElem?_range hi]; rfl
theorem synL_dif {f c : List Bool} (hc : cw (bw c)) : synL f = synL (difB f c) := by
  show (List.range 20).map (fun j => ofE (sy (bw f) (j + 1))) = (List.range 20).map fun j => ofE (sy (bw (difB f c)) (j + 1))
  refine List.map_congr_left fun j hj => ?_
  rw [sy_congr (fun i hi => difB_bw f c hi), sy_xor, hc j (List.mem_range.1 hj), xz]
theorem try_few {w h c : List Bool} (lc : c.length = 127) (hn : nearB w h c = true) (b : Bool) (hf : cn 127 (fun i => bw (fillB w h (rep7 b)) i != bw c i) ≤ 10) : tryB w h b = true ∧ tryW w h b = c := by
  have hcw : cw (bw c) := by
    rw [near_far, Bool.and_eq_true] at hn
    exact (isB_cw _).1 hn.1
  have hW : tryW w h b = c := by
    unfold tryW
    rw [synL_dif hcw, (loc_few (difB_len _ _) (by rw [cn_congr fun i hi => difB_bw _ _ hi]; exact hf)).2]
    obtain ⟨h1, h2⟩ := flip_plc (fillB w h (rep7 b)) (fillB_len _ _ _) (bw (difB (fillB w h (rep7 b)) c)) 127 (Nat.le_refl _)
    refine bw_ext h1 lc fun i hi => ?_
    rw [h2 i, difB_bw _ _ hi]
    generalize bw (fillB w h (rep7 b)) i = x
    cases x <;> cases bw c i <;> simp [hi]
  refine ⟨?_, hW⟩
  unfold tryB
  rw [hW, hn, synL_dif hcw, (loc_few (difB_len _ _) (by rw [cn_congr fun i hi => difB_bw _ _ hi]; exact hf)).1]; rfl
theorem try_near {w h : List Bool} {b : Bool} (ht : tryB w h b = true) : nearB w h (tryW w h b) = true := by
  unfold tryB at ht
  rw [Bool.and_eq_true] at ht
  exact ht.2

theorem cn_two (p q r s : Nat → Bool) (n : Nat) (h : ∀ i, i < n → (if p i = true then 1 else 0) + (if q i = true then 1 else 0) = 2 * (if r i = true then 1 else 0) + (if s i = true then 1 else 0)) : cn n p + cn n q = 2 * cn n r + cn n s := by
  induction n with
  | zero => rfl
  | succ n ih =>
    have h1 := ih fun i hi => h i (by omega)
    have h2 := h n (by omega)
    rw [cn, cn, cn, cn]
    omega

/-- What is near is answered. -/
theorem am_near {w h c : List Bool} (lc : c.length = 127) (hn : nearB w h c = true) : amI w h = infI c ∧ amE w h = 0 := by
  have hfar := hn
  rw [near_far, Bool.and_eq_true, decide_eq_true_eq] at hfar
  have hfar := hfar.2
  unfold far6 at hfar
  rw [far_cn] at hfar
  have h2 := cn_two (fun i => bw (fillB w h (rep7 false)) i != bw c i) (fun i => bw (fillB w h (rep7 true)) i != bw c i) (fun i => !bw h i && (bw w i != bw c i)) (bw h) 127 fun i hi => by
    rw [fillB_bw _ _ _ hi, fillB_bw _ _ _ hi, rep7_bw _ hi, rep7_bw _ hi]
    cases bw h i <;> cases bw w i <;> cases bw c i <;> rfl
  unfold amI amE
  cases h0 : tryB w h false with
  | true =>
    rw [if_pos rfl, if_pos rfl, near_uniq (tryW_len w h false) lc (try_near h0) hn]
    exact ⟨rfl, rfl⟩
  | false =>
    have h1 : tryB w h true = true ∧ tryW w h true = c := try_few lc hn true (by
      by_cases e : cn 127 (fun i => bw (fillB w h (rep7 false)) i != bw c i) ≤ 10
      · have := (try_few lc hn false e).1
        rw [h0] at this; cases this
      · omega)
    rw [h1.1, h1.2]
    exact ⟨rfl, rfl⟩
/-- What is answered is near; or nothing is. -/
theorem am_cases (w h : List Bool) : (∃ c, c.length = 127 ∧ nearB w h c = true ∧ amI w h = infI c ∧ amE w h = 0) ∨ (amI w h = 0 ∧ amE w h = 5 ∧ ∀ c, c.length = 127 → nearB w h c = false) := by
  cases h0 : tryB w h false with
  | true => exact .inl ⟨_, tryW_len w h false, try_near h0, am_near (tryW_len w h false) (try_near h0)⟩
  | false =>
    cases h1 : tryB w h true with
    | true => exact .inl ⟨_, tryW_len w h true, try_near h1, am_near (tryW_len w h true) (try_near h1)⟩
    | false =>
      refine .inr ⟨?_, ?_, fun c lc => ?_⟩
      · unfold amI; rw [h0, h1]; rfl
      · unfold amE; rw [h0, h1]; rfl
      · cases hn : nearB w h c with
        | false => rfl
        | true =>
          have := (am_near lc hn).2
          unfold amE at this
          rw [h0, h1] at this
          exact absurd this (by decide)
theorem near_cw {w h c : List Bool} (hn : nearB w h c = true) : cw (bw c) := by
  rw [near_far, Bool.and_eq_true] at hn
  exact (isB_cw _).1 hn.1
theorem am_enc {w h : List Bool} {x : Int} (hx : 0 ≤ x ∧ x ≤ 18446744073709551615) (hf : far6 w h (encF x) ≤ 20) : amI w h = x ∧ amE w h = 0 := by
  have := am_near (enc_len x) (by rw [near_enc]; exact decide_eq_true hf)
  rw [info_enc hx] at this
  exact this
theorem am_ok {w h : List Bool} (he : amE w h = 0) : (0 ≤ amI w h ∧ amI w h ≤ 18446744073709551615) ∧ nearB w h (encF (amI w h)) = true ∧ far6 w h (encF (amI w h)) ≤ 20 := by
  rcases am_cases w h with ⟨c, lc, hn, e1, e2⟩ | ⟨e1, e2, -⟩
  · have hi := enc_info lc (near_cw hn)
    rw [e1, hi]
    refine ⟨info_fit c, hn, ?_⟩
    rw [near_far, Bool.and_eq_true, decide_eq_true_eq] at hn
    exact hn.2
  · rw [e2] at he; exact absurd he (by decide)
theorem am_bad {w h : List Bool} (he : amE w h ≠ 0) : amI w h = 0 ∧ amE w h = 5 := by
  rcases am_cases w h with ⟨c, lc, hn, e1, e2⟩ | ⟨e1, e2, -⟩
  · exact absurd e2 he
  · exact ⟨e1, e2⟩
end Go.SL.A

/- The payload out of votes: plain functions and laws. -/
namespace Go.SL.S
open Go Go.SL
def zeroSH : SHM := (List.replicate 8 0, List.replicate 8 (List.replicate 4 0))
def loudR (c : List Int) (b : Bool) : List Int := if b then [-(c.getD 0 0), -(c.getD 1 0), 0, 0] else [c.getD 0 0, c.getD 1 0, 0, 0]
/-- A shape whose bands all speak for a bit. -/
def loudS (k : List Int) (f : Int) (b : Bool) : SHM := (List.replicate 8 0, List.replicate 8 (loudR (chipsK k f) b))
def hitN (l : List Int) (i : Nat) : Bool := l.any fun x => decide (x = (i : Int))
def sayF (k : List Int) (w : List Bool) (wr si : List Int) (f : Int) (i : Nat) : SHM :=
  if hitN si i then zeroSH else loudS k f (if hitN wr i then !(bw w (placeK k f).toNat) else bw w (placeK k f).toNat)
def pkA (k : List Int) (w : List Bool) (wr si fr : List Int) (i : Nat) : PKQ := (fr.getD i 0, sayF k w wr si (fr.getD i 0) i)
def pkL (k : List Int) (w : List Bool) (wr si fr : List Int) (n : Nat) : List PKQ := (List.range n).map (pkA k w wr si fr)
def seenA (fr : List Int) : Nat → List Bool
  | 0 => List.replicate 65536 false
  | i + 1 => if (seenA fr i).getD (fr.getD i 0).toNat false then seenA fr i else List.set (seenA fr i) (fr.getD i 0).toNat true
def okA (wr si : List Int) (i : Nat) : Bool := !(hitN wr i) && !(hitN si i)
/-- How many frames of each place speak for its bit, or don't. -/
def spkA (k wr si fr : List Int) (ok : Bool) : Nat → List Int
  | 0 => List.replicate 127 0
  | i + 1 => if (seenA fr i).getD (fr.getD i 0).toNat false then spkA k wr si fr ok i
    else if okA wr si i = ok then addAt (spkA k wr si fr ok i) (placeK k (fr.getD i 0)) 1 else spkA k wr si fr ok i
def cameA (k fr : List Int) : Nat → List Bool
  | 0 => List.replicate 127 false
  | i + 1 => if (seenA fr i).getD (fr.getD i 0).toNat false then cameA k fr i else List.set (cameA k fr i) (placeK k (fr.getD i 0)).toNat true
def costA (k wr si fr : List Int) (n : Nat) : Nat → Int
  | 0 => 0
  | q + 1 => costA k wr si fr n q + (if (cameA k fr n).getD q false = true ∧ (spkA k wr si fr true n).getD q 0 ≤ (spkA k wr si fr false n).getD q 0 then 2 else 0) + (if (cameA k fr n).getD q false = false then 1 else 0)
end Go.SL.S
namespace Go.SL.A
open Go Go.SL Go.SL.S
set_option maxRecDepth 100000

theorem loud_corr (k : List Int) (f : Int) (b : Bool) : corrF k f (loudS k f b) = if b then -2 else 2 := by
  have hb := band_fit k f
  have c0 := chips_one k f (i := 0) (by omega)
  have c1 := chips_one k f (i := 1) (by omega)
  have hh : heldB (loudS k f b).2 = true := by
    unfold heldB loudS
    refine List.all_eq_true.2 fun y hy => ?_
    obtain ⟨-, rfl⟩ := List.mem_replicate.1 hy
    unfold loudR
    rcases c0 with c0 | c0 <;> rcases c1 with c1 | c1 <;> rw [c0, c1] <;> cases b <;> decide
  unfold corrF
  rw [if_pos hh]
  have hr : rowZ (loudS k f b).2 (bandK k f) = loudR (chipsK k f) b := by
    unfold rowZ loudS
    rw [List.getD_eq_getElem?_getD, List.getElem?_replicate, if_pos (by omega)]; rfl
  rw [hr]
  unfold loudR
  cases b with
  | false =>
    rw [if_neg (by decide), if_neg (by decide), dot4]
    rcases c0 with c0 | c0 <;> rcases c1 with c1 | c1 <;> rw [c0, c1] <;> omega
  | true =>
    rw [if_pos rfl, if_pos rfl, dot4]
    rcases c0 with c0 | c0 <;> rcases c1 with c1 | c1 <;> rw [c0, c1] <;> omega
theorem zero_corr (k : List Int) (f : Int) : corrF k f zeroSH = 0 := by
  have hb := band_fit k f
  unfold corrF
  have hr : rowZ zeroSH.2 (bandK k f) = [0, 0, 0, 0] := by
    unfold rowZ zeroSH
    rw [List.getD_eq_getElem?_getD, List.getElem?_replicate, if_pos (by omega)]; rfl
  rw [hr, dot4]
  split <;> omega
theorem getD_set_b (l : List Bool) {i : Nat} (hi : i < l.length) (b : Bool) (q : Nat) : (List.set l i b).getD q false = if q = i then b else l.getD q false := by
  rw [List.getD_eq_getElem?_getD, List.getElem?_set]
  by_cases e : i = q
  · subst e; rw [if_pos rfl, if_pos hi, if_pos rfl]; rfl
  · rw [if_neg e, if_neg (fun h => e h.symm), ← List.getD_eq_getElem?_getD]
theorem seenA_len (fr : List Int) : ∀ i, (seenA fr i).length = 65536
  | 0 => by rw [seenA, List.length_replicate]
  | i + 1 => by
    rw [seenA]
    split
    · exact seenA_len fr i
    · rw [List.length_set]; exact seenA_len fr i
theorem cameA_len (k fr : List Int) : ∀ i, (cameA k fr i).length = 127
  | 0 => by rw [cameA, List.length_replicate]
  | i + 1 => by
    rw [cameA]
    split
    · exact cameA_len k fr i
    · rw [List.length_set]; exact cameA_len k fr i
theorem spkA_len (k wr si fr : List Int) (ok : Bool) : ∀ i, (spkA k wr si fr ok i).length = 127
  | 0 => by rw [spkA, List.length_replicate]
  | i + 1 => by
    rw [spkA]
    split
    · exact spkA_len k wr si fr ok i
    · split
      · rw [addAt_len]; exact spkA_len k wr si fr ok i
      · exact spkA_len k wr si fr ok i
def sgA (w : List Bool) (q : Nat) : Int := if bw w q then -1 else 1
/-- The votes of the first packets, and what they speak for. -/
structure FJ (k : List Int) (w : List Bool) (wr si fr : List Int) (i : Nat) (m : List PKQ) : Prop where
  seen : ∀ f : Int, 0 ≤ f → f ≤ 65535 → hasF m f = (seenA fr i).getD f.toNat false
  vote : ∀ q, q < 127 → (spkA k wr si fr true i).getD q 0 - (spkA k wr si fr false i).getD q 0 ≤ sgA w q * (voteL k 0 m).getD q 0
  none : ∀ q, q < 127 → (cameA k fr i).getD q false = false → (voteL k 0 m).getD q 0 = 0
theorem say_spk (k : List Int) (w : List Bool) (wr si : List Int) (f : Int) (i : Nat) :
    (if okA wr si i = true then 1 else -1) ≤ sgA w (placeK k f).toNat * spkF (corrF k f (sayF k w wr si f i)) := by
  unfold sayF okA sgA
  cases hs : hitN si i with
  | true =>
    rw [if_pos rfl, zero_corr, show spkF 0 = 0 from rfl, Int.mul_zero, Bool.not_true, Bool.and_false]
    decide
  | false =>
    have e : ∀ x y : SHM, (if false = true then x else y) = y := fun x y => if_neg (by decide)
    rw [e, loud_corr]
    cases hitN wr i <;> cases bw w (placeK k f).toNat <;> decide
theorem add_at (s : List Int) {P : Int} (hP : P.toNat < s.length) (c ok : Bool) (q : Nat) : (if c = ok then addAt s P 1 else s).getD q 0 = s.getD q 0 + if c = ok ∧ q = P.toNat then 1 else 0 := by
  by_cases h : c = ok
  · rw [if_pos h, getD_addAt hP]
    by_cases e : q = P.toNat
    · rw [if_pos e, if_pos ⟨h, e⟩]
    · rw [if_neg e, if_neg (fun x => e x.2)]; omega
  · rw [if_neg h, if_neg (fun x => h x.1)]; omega
theorem fj_ok (k : List Int) (w : List Bool) (wr si : List Int) {fr : List Int} (hf : ∀ x ∈ fr, 0 ≤ x ∧ x ≤ 65535) {n : Nat} (hn : n ≤ fr.length) : ∀ i, i ≤ n → FJ k w wr si fr i (firstsTo (pkL k w wr si fr n) i)
  | 0, _ => by
    refine ⟨fun f h0 h1 => ?_, fun q hq => ?_, fun q hq _ => ?_⟩
    · rw [seenA, firstsTo, List.getD_eq_getElem?_getD, List.getElem?_replicate, if_pos (by omega)]; rfl
    · rw [spkA, spkA, firstsTo]
      unfold voteL
      rw [List.foldl_nil]
      have : (List.replicate 127 (0 : Int)).getD q 0 = 0 := by rw [List.getD_eq_getElem?_getD, List.getElem?_replicate, if_pos hq]; rfl
      rw [this]; omega
    · rw [firstsTo]
      unfold voteL
      rw [List.foldl_nil, List.getD_eq_getElem?_getD, List.getElem?_replicate, if_pos hq]; rfl
  | i + 1, hi => by
    have ih := fj_ok k w wr si hf hn i (by omega)
    have hp : (pkL k w wr si fr n).getD i zeroK = pkA k w wr si fr i := by
      unfold pkL
      rw [List.getD_eq_getElem?_getD, List.getElem?_map, List.getElem?_range (by omega)]; rfl
    have hfi := hf _ (getD_mem (f := fr) (k := i) (d := 0) (by omega))
    rw [firstsTo, hp]
    have e1 : (pkA k w wr si fr i).1 = fr.getD i 0 := rfl
    have e2 : (pkA k w wr si fr i).2 = sayF k w wr si (fr.getD i 0) i := rfl
    generalize pkA k w wr si fr i = p at e1 e2 ⊢
    obtain ⟨f, hfe⟩ : ∃ f, fr.getD i 0 = f := ⟨_, rfl⟩
    rw [hfe] at hfi e1 e2
    have hseen := ih.seen f hfi.1 hfi.2
    generalize firstsTo (pkL k w wr si fr n) i = m at ih hseen ⊢
    by_cases h : (seenA fr i).getD f.toNat false = true
    · rw [if_pos (by rw [e1, hseen]; exact h)]
      have s1 : seenA fr (i + 1) = seenA fr i := by rw [seenA, hfe, if_pos h]
      have s2 : ∀ ok, spkA k wr si fr ok (i + 1) = spkA k wr si fr ok i := fun ok => by rw [spkA, hfe, if_pos h]
      have s3 : cameA k fr (i + 1) = cameA k fr i := by rw [cameA, hfe, if_pos h]
      exact ⟨fun f' a b => by rw [s1]; exact ih.seen f' a b, fun q hq => by rw [s2, s2]; exact ih.vote q hq, fun q hq hc => ih.none q hq (by rw [← s3]; exact hc)⟩
    · rw [if_neg (by rw [e1, hseen]; exact h)]
      have g1 : (placeK k f).toNat < 127 := (fun (x : Int) (h : 0 ≤ x ∧ x < 127) => (by omega : x.toNat < 127)) _ (place_fit k f)
      have s1 : seenA fr (i + 1) = List.set (seenA fr i) f.toNat true := by rw [seenA, hfe, if_neg h]
      have s2 : ∀ ok, spkA k wr si fr ok (i + 1) = if okA wr si i = ok then addAt (spkA k wr si fr ok i) (placeK k f) 1 else spkA k wr si fr ok i := fun ok => by rw [spkA, hfe, if_neg h]
      have s3 : cameA k fr (i + 1) = List.set (cameA k fr i) (placeK k f).toNat true := by rw [cameA, hfe, if_neg h]
      have hv : voteL k 0 (m ++ [p]) = addAt (voteL k 0 m) (placeK k f) (spkF (corrF k f (sayF k w wr si f i))) := by
        unfold voteL
        rw [List.foldl_append, List.foldl_cons, List.foldl_nil]
        show voteAdd k 0 _ p = _
        unfold voteAdd
        have e : (p.1 % 1016 + 0 % 1016) % 1016 = f % 1016 := by rw [e1]; omega
        rw [place_mod e, corr_mod e, e2]
      have hvl := vote_len k 0 m
      refine ⟨fun f' a b => ?_, fun q hq => ?_, fun q hq hc => ?_⟩
      · have h1 := ih.seen f' a b
        rw [s1, getD_set_b _ (by rw [seenA_len]; omega)]
        unfold hasF at h1 ⊢
        rw [List.any_append, h1]
        by_cases e : f'.toNat = f.toNat
        · rw [if_pos e]
          have : p.1 = f' := by rw [e1]; omega
          simp [this]
        · rw [if_neg e]
          have : p.1 ≠ f' := fun e' => e (by rw [← e', e1])
          simp [this]
      · have hs := say_spk k w wr si f i
        have iv := ih.vote q hq
        have g2 : ∀ ok, (placeK k f).toNat < (spkA k wr si fr ok i).length := fun ok => by rw [spkA_len]; exact g1
        have g3 : (placeK k f).toNat < (voteL k 0 m).length := by rw [hvl]; exact g1
        rw [s2, s2, add_at _ (g2 _), add_at _ (g2 _), hv, getD_addAt g3]
        by_cases e : q = (placeK k f).toNat
        · rw [if_pos e, Int.mul_add]
          rw [← e] at hs
          cases hok : okA wr si i with
          | true =>
            rw [hok, if_pos rfl] at hs
            rw [if_pos ⟨rfl, e⟩, if_neg (fun x => by cases x.1)]
            omega
          | false =>
            rw [hok, if_neg (by decide)] at hs
            rw [if_pos (show false = false ∧ q = (placeK k f).toNat from ⟨rfl, e⟩), if_neg (fun x => by cases x.1)]
            omega
        · rw [if_neg e, if_neg (fun x => e x.2), if_neg (fun x => e x.2)]
          omega
      · rw [s3, getD_set_b _ (by rw [cameA_len]; exact g1)] at hc
        by_cases e : q = (placeK k f).toNat
        · rw [if_pos e] at hc; cases hc
        · rw [if_neg e] at hc
          rw [hv, getD_addAt (by rw [hvl]; exact g1), if_neg e]
          exact ih.none q hq hc
theorem votes_len (k : List Int) (l : List PKQ) (s : Int) : (votesF k l s).length = 127 := vote_len k s _
theorem dec_at {v : List Int} (hl : v.length = 127) {q : Nat} (hq : q < 127) : bw (decW v) q = decide (v.getD q 0 < 0) ∧ bw (decH v) q = decide (v.getD q 0 = 0) := by
  unfold bw decW decH
  constructor
  · rw [List.getD_eq_getElem?_getD, List.getElem?_map, List.getD_eq_getElem?_getD, List.getElem?_eq_getElem (by omega)]; rfl
  · rw [List.getD_eq_getElem?_getD, List.getElem?_map, List.getD_eq_getElem?_getD, List.getElem?_eq_getElem (by omega)]; rfl
theorem cost_far (k : List Int) {w : List Bool} (wr si : List Int) {fr : List Int} (hf : ∀ x ∈ fr, 0 ≤ x ∧ x ≤ 65535) : ∀ q, q ≤ 127 →
    farTo6 (decW (votesF k (pkL k w wr si fr fr.length) 0)) (decH (votesF k (pkL k w wr si fr fr.length) 0)) w q ≤ costA k wr si fr fr.length q
  | 0, _ => by rw [farTo6, costA]; exact Int.le_refl _
  | q + 1, hq => by
    have ih := cost_far k (w := w) wr si hf q (by omega)
    have F := fj_ok k w wr si hf (Nat.le_refl fr.length) fr.length (Nat.le_refl _)
    have hl : (pkL k w wr si fr fr.length).length = fr.length := by simp [pkL]
    have hlen := votes_len k (pkL k w wr si fr fr.length) 0
    obtain ⟨d1, d2⟩ := dec_at hlen (q := q) (by omega)
    rw [farTo6, costA, d1, d2]
    have hv : votesF k (pkL k w wr si fr fr.length) 0 = voteL k 0 (firstsTo (pkL k w wr si fr fr.length) fr.length) := by unfold votesF; rw [hl]
    have h1 := F.vote q (by omega)
    have h2 := F.none q (by omega)
    rw [← hv] at h1 h2
    generalize (votesF k (pkL k w wr si fr fr.length) 0).getD q 0 = v at h1 h2 ⊢
    generalize farTo6 _ _ _ _ = A at ih ⊢
    generalize costA k wr si fr fr.length q = B at ih ⊢
    generalize (spkA k wr si fr true fr.length).getD q 0 = s at h1 ⊢
    generalize (spkA k wr si fr false fr.length).getD q 0 = o at h1 ⊢
    generalize (cameA k fr fr.length).getD q false = c at h2 ⊢
    unfold sgA at h1
    cases c with
    | false =>
      have := h2 rfl
      subst this
      simp; omega
    | true =>
      cases hb : bw w q with
      | false =>
        rw [hb, if_neg (by decide)] at h1
        by_cases e : v = 0
        · subst e
          have : s ≤ o := by omega
          simp [this]; omega
        · by_cases e2 : v < 0
          · have : s ≤ o := by omega
            simp [e, e2, this]; omega
          · have e3 : decide (v < 0) = false := decide_eq_false e2
            have e4 : decide (v = 0) = false := decide_eq_false e
            rw [e3, e4]
            simp only [Bool.false_eq_true, if_false, if_true, true_and, Bool.true_eq_false]
            split <;> omega
      | true =>
        rw [hb, if_pos rfl] at h1
        by_cases e : v = 0
        · subst e
          have : s ≤ o := by omega
          simp [this]; omega
        · by_cases e2 : v < 0
          · have e3 : decide (v < 0) = true := decide_eq_true e2
            have e4 : decide (v = 0) = false := decide_eq_false e
            rw [e3, e4]
            simp only [Bool.false_eq_true, if_false, if_true, true_and, Bool.true_eq_false]
            split <;> omega
          · have : s ≤ o := by omega
            simp [e, e2, this]; omega
theorem num_back24 {k : List Int} {p : Int} (hp : 0 ≤ p ∧ p < 281474976710656) : (0 ≤ numP k p ∧ numP k p ≤ 18446744073709551615) ∧ numP k p / 281474976710656 = sumL k p ∧ numP k p % 281474976710656 = p := by
  have hs : 0 ≤ sumL k p ∧ sumL k p < 65536 := by unfold sumL; omega
  unfold numP
  omega
/-- The payload is found. -/
theorem carry_ok (k wr si : List Int) {p : Int} (hp : 0 ≤ p ∧ p < 281474976710656) {fr : List Int} (hf : ∀ x ∈ fr, 0 ≤ x ∧ x ≤ 65535) (hc : costA k wr si fr fr.length 127 ≤ 20) :
    takeE k (votesF k (pkL k (layW k p) wr si fr fr.length) 0) = 0 ∧ takeI k (votesF k (pkL k (layW k p) wr si fr fr.length) 0) = p := by
  have hm : mayL p = true := by unfold mayL; simp; omega
  have hw : layW k p = encF (numP k p) := by unfold layW; rw [if_pos hm]
  obtain ⟨n1, n2, n3⟩ := num_back24 (k := k) hp
  have hF := cost_far k (w := layW k p) wr si hf 127 (Nat.le_refl _)
  generalize hv : votesF k (pkL k (layW k p) wr si fr fr.length) 0 = v at hF ⊢
  rw [hw] at hF
  obtain ⟨a1, a2⟩ := am_enc (w := decW v) (h := decH v) n1 (Int.le_trans hF hc)
  have hB : readB k (numP k p) = true := by unfold readB; rw [n2, n3]; simp
  unfold takeE takeI
  rw [if_pos a2, if_pos a2, a1]
  unfold readL readI
  rw [hB, if_pos rfl, if_pos rfl]
  exact ⟨rfl, n3⟩
/-- What is found has its check. -/
theorem checked_ok (k : List Int) (v : List Int) : (takeE k v = 0 → mayL (takeI k v) = true ∧ far6 (decW v) (decH v) (layW k (takeI k v)) ≤ 20) ∧ (takeE k v ≠ 0 → takeI k v = 0 ∧ (takeE k v = 5 ∨ takeE k v = 6)) := by
  unfold takeE takeI
  by_cases h : amE (decW v) (decH v) = 0
  · rw [if_pos h, if_pos h]
    obtain ⟨⟨m1, m2⟩, -, m3⟩ := am_ok h
    generalize amI (decW v) (decH v) = x at m1 m2 m3 ⊢
    unfold readL readI
    cases hB : readB k x with
    | true =>
      rw [if_pos rfl, if_pos rfl]
      refine ⟨fun _ => ?_, fun h' => absurd rfl h'⟩
      have hx : mayL (x % 281474976710656) = true := by unfold mayL; simp; omega
      refine ⟨hx, ?_⟩
      have hq := of_decide_eq_true hB
      have : layW k (x % 281474976710656) = encF x := by
        unfold layW numP
        rw [if_pos hx, ← hq]
        congr 1; omega
      rw [this]; exact m3
    | false =>
      rw [if_neg (by decide), if_neg (by decide)]
      exact ⟨fun h' => absurd h' (by decide), fun _ => ⟨rfl, Or.inr rfl⟩⟩
  · rw [if_neg h, if_neg h]
    have := (am_bad h).2
    exact ⟨fun h' => absurd h' h, fun _ => ⟨rfl, Or.inl this⟩⟩
end Go.SL.A

/- Bands and shapes: plain functions. -/
namespace Go.SL.S
open Go Go.SL
def mayB (b : Int) : Bool := decide (0 ≤ b ∧ b < 8)
def z4 : List Int := [0, 0, 0, 0]
def ofF (f : List Int) (b : Int) : List Int := if mayB b then (f.drop (b * 4).toNat).take 4 else z4
def loudF (m x : Int) : Bool := decide (x < -m) || decide (m < x)
def firstS (c : List Int) : Nat → Nat → Int
  | 0, s => (s : Int)
  | f + 1, s => if c.any (loudF (6 * 2 ^ s)) then firstS c f (s + 1) else (s : Int)
def stepOf (c : List Int) : Int := firstS c 15 0
def stepsF (f : List Int) : List Int := (List.range 8).map fun b : Nat => stepOf (ofF f b)
def clampF (f : List Int) : List Int := f.map fun x => max (min x 1048576) (-1048576)
abbrev SHP : Type := List Int × List (List Int)
def y8 : List (List Int) := [z4, z4, z4, z4, z4, z4, z4, z4]
def shapeY (g S k : List Int) : List (List Int) := (List.range 8).map fun b : Nat => findV (ofF g b) (S.getD b 0) (k.getD b 0)
def shapeF (f : List Int) (n : Int) : SHP := (stepsF (clampF f), shapeY (clampF f) (stepsF (clampF f)) (giveV (stepsF (clampF f)) n))
def shapeE (size : Int) : Int := if giveB size = 0 then 1 else 0
def shapeV (f : List Int) (size : Int) : SHP := if giveB size = 0 then (z8, y8) else shapeF f (giveB size)
end Go.SL.S

/- Functions and what they are held to do: bound to their code. -/
namespace Go.SL.A
open Go Go.SL Go.SL.S
set_option maxRecDepth 100000
end Go.SL.A

/- Bands and shapes: functions. -/
namespace Go.SL.A
open Go Go.SL Go.SL.S

structure SW (s : SHP) : Prop where
  l1 : s.1.length = 8
  l2 : s.2.length = 8
  l4 : ∀ y ∈ s.2, y.length = 4

theorem SW.row {s : SHP} (h : SW s) (b : Nat) : (s.2.getD b z4).length = 4 := by
  by_cases hb : b < s.2.length
  · exact h.l4 _ (getD_mem hb)
  · rw [List.getD_eq_getElem?_getD, List.getElem?_eq_none (by omega)]; rfl

end Go.SL.A

/- Functions do what they are held to do. -/
namespace Go.SL.A
open Go Go.SL Go.SL.S
end Go.SL.A

/- Statements of code: plain functions. -/
namespace Go.SL.S
open Go Go.SL
end Go.SL.S

/- Statements of code: plain laws. -/
namespace Go.SL.A
open Go Go.SL Go.SL.S

/-- What is known of a shape. -/
structure Shp (f : List Int) (n : Int) : Prop where
  ok : shapeE n = 0
  sw : SW (shapeV f n)
  st : ∀ b : Nat, 0 ≤ (shapeV f n).1.getD b 0 ∧ (shapeV f n).1.getD b 0 ≤ 15
  side : (shapeV f n).1 = stepsF (clampF f)
  row : ∀ b : Nat, b < 8 → ∃ k, (0 ≤ k ∧ k ≤ 12) ∧ Found (ofF (clampF f) b) ((shapeV f n).1.getD b 0) k ((shapeV f n).2.getD b z4)

end Go.SL.A

/- Votes of frames: plain functions and laws. -/
namespace Go.SL.S
open Go Go.SL
end Go.SL.S
namespace Go.SL.A
open Go Go.SL Go.SL.S
set_option maxRecDepth 100000

end Go.SL.A

/- Votes of frames: the plain law. -/
namespace Go.SL.A
open Go Go.SL Go.SL.S
set_option maxRecDepth 100000

end Go.SL.A

/- The functions of marks and of what a mark carries. -/
namespace Go.SL.A
open Go Go.SL
def GvM := orG Gd17 Gd33
theorem sndvM : Sound Go.Proofs.Tryd.prog GvM := sndd17.or sndd33
end Go.SL.A

/- Payloads of packets: plain functions. -/
namespace Go.SL.S
open Go Go.SL
/-- What a map of numbers has that were met. -/
def metL (m : List PKQ) : List (Int × Bool) := m.map fun p => (p.1, true)
def payI (k : List Int) (l : List PKQ) : Int := takeI k (votesF k l 0)
def payE (k : List Int) (l : List PKQ) : Int := takeE k (votesF k l 0)
/-- How many shifts are searched. -/
def srchN (a b : Int) : Nat := if a ≤ b then min 64 (b - a + 1).toNat else 0
def srchL (k : List Int) (l : List PKQ) (a : Int) : Nat → List (Int × Int)
  | 0 => []
  | i + 1 => srchL k l a i ++ if takeE k (votesF k l (a + (i : Int))) = 0 then [(a + (i : Int), takeI k (votesF k l (a + (i : Int))))] else []
end Go.SL.S

/- Functions and what they are held to do: bound to their code. -/
namespace Go.SL.A
open Go Go.SL Go.SL.S
set_option maxRecDepth 100000
noncomputable def Cv32 : Ctx := ⟨Go.Proofs.Tryd.prog, D, GvM, (fun _ _ => none), fun _ => []⟩
def annv32 (_k : List Int) (_f : Int) : Nat → St → Option Ann := fun _ _ => none
def outv32 (k : List Int) (f : Int) : COut := ⟨[], .v (.int .i64) (placeK k f), [], []⟩
def spv32 : Spec := fun args ins => match args, ins with
  | [⟨.arr 16 (.int .u8), k⟩, ⟨.int .i64, f⟩], [] => some (outv32 k f)
  | _, _ => none
def Gv32 := addG GvM 32 spv32
def Pv32 (k : List Int) (f : Int) : Prop :=
 (((1:Int)≤127∧(127:Int)≤256)∧(127:Int)≠0∧(0≤Int.tmod (f % 1016) (127:Int)∧Int.tmod (f % 1016) (127:Int)<(↑ (127:Nat):Int))∧0+(Int.tmod (f % 1016) (127:Int)).toNat<List.length (ordK k (112:Int) (127:Nat)))∧List.getD (ordK k (112:Int)
 (127:Nat)) (0+(Int.tmod (f % 1016) (127:Int)).toNat) (0:Int)=placeK k f
theorem vcv32 (k : List Int) (f : Int) : Pv32 k f = vcFun Cv32 (annv32 k f) Go.Proofs.Tryd.f32 [⟨.arr 16 (.int .u8), k⟩, ⟨.int .i64, f⟩] [] (outv32 k f) := by kernel_rfl

noncomputable def Cv54 : Ctx := ⟨Go.Proofs.Tryd.prog, D, Gv32, (fun _ _ => none), fun _ => []⟩
def annv54 (_r : Bool) (k : List Int) (l : List (Int × List Int × List (List Int))) (sh : Int) (_n : Nat) : Nat → St → Option Ann := fun _ _ => some ⟨Nat, [2, 3, 6, 7, 8, 13, 14], [0, 1, 2], fun i => [(15, .v (.int .i64) (i : Int))], fun i => [(3, some ⟨false, true, .arr 127 (.int .i64), [voteL k sh (firstsTo l i)]⟩), (4, some ⟨true, true, .cons (.int .i64) (.last .bool), metL (firstsTo l i)⟩)], fun i => i ≤ l.length, fun i => l.length - i⟩
def outv54 (_r : Bool) (k : List Int) (l : List (Int × List Int × List (List Int))) (sh : Int) (n : Nat) : COut := ⟨[n = l.length ∧ n ≤ 1000000], .v (.arr 127 (.int .i64)) (votesF k l sh), [], []⟩
def spv54 : Spec := fun args ins => match args, ins with
  | [⟨.arr 16 (.int .u8), k⟩, ⟨.ref .slice, .slice 0 (.cons (.int .i64) (.last (.cons (.arr 8 (.int .i64)) (.last (.arr 8 (.arr 4 (.int .i64))))))) [] 0 n⟩, ⟨.int .i64, sh⟩], [⟨r, false, (.cons (.int .i64) (.last (.cons (.arr 8 (.int .i64)) (.last (.arr 8 (.arr 4 (.int .i64))))))), l⟩] => some (outv54 r k l sh n)
  | _, _ => none
def Gv54 := addG Gv32 54 spv54
def Pv54 (r : Bool) (k : List Int) (l : List (Int × List Int × List (List Int))) (sh : Int) (n : Nat) : Prop :=
 ∃ (x:Nat),((sh=sh∧0=0∧0=0∧0=0∧0=0∧n=n∧(n:Int)=(n:Int)∧0=(x:Int)∧l=l∧r=r∧k=k∧false=false∧(0:Int) :: List.replicate (nat_lit 126) (0:Int)=List.replicate 127 (0:Int)∧false=false∧(0:Int) :: List.replicate (nat_lit 126) (0:Int)=voteL k sh
 (firstsTo l x)∧false=false∧[]=metL (firstsTo l x))∧x≤List.length l)∧∀ (x:Nat),x≤List.length l→(IntKind.min .i64≤(x:Int)∧(x:Int)≤IntKind.max .i64∧(∀ (y:List Int),List.Mem y [voteL k sh (firstsTo l x)]→List.length y=127∧∀ (y_1:Int),List.Mem
 y_1 y→IntKind.min .i64≤y_1∧y_1≤IntKind.max .i64)∧∀ (y:Int × Bool),List.Mem y (metL (firstsTo l x))→IntKind.min .i64≤y.1∧y.1≤IntKind.max .i64)→bif decide ((x:Int)<(n:Int)) then ((0≤(x:Int)∧(x:Int)<(n:Int))∧0+(x:Int).toNat<List.length
 l)∧bif getE (getK (Ty.int .i64) Ty.bool (metL (firstsTo l x)) (List.getD l (0+(x:Int).toNat) ((0:Int),List.replicate 8 (0:Int),List.replicate 8 (List.replicate 4 (0:Int)))).1) then ∃ (y:Nat),(sh=sh∧0=0∧0=0∧0=0∧0=0∧n=n∧(n:Int)=(n:Int)∧IntKind.wrap
 .i64 ((x:Int)+1)=(y:Int)∧l=l∧r=r∧k=k∧false=false∧(0:Int) :: List.replicate (nat_lit 126) (0:Int)=List.replicate 127 (0:Int)∧false=false∧voteL k sh (firstsTo l x)=voteL k sh (firstsTo l y)∧false=false∧metL (firstsTo l x)=metL (firstsTo
 l y))∧y≤List.length l∧List.length l - y<List.length l - x else ((0≤placeK k (IntKind.wrap .i64 ((List.getD l (0+(x:Int).toNat) ((0:Int),List.replicate 8 (0:Int),List.replicate 8 (List.replicate 4 (0:Int)))).1 % 1016+sh % 1016))∧placeK
 k (IntKind.wrap .i64 ((List.getD l (0+(x:Int).toNat) ((0:Int),List.replicate 8 (0:Int),List.replicate 8 (List.replicate 4 (0:Int)))).1 % 1016+sh % 1016))<(↑ (127:Nat):Int))∧(placeK k (IntKind.wrap .i64 ((List.getD l (0+(x:Int).toNat)
 ((0:Int),List.replicate 8 (0:Int),List.replicate 8 (List.replicate 4 (0:Int)))).1 % 1016+sh % 1016))).toNat<127∧(0≤placeK k (IntKind.wrap .i64 ((List.getD l (0+(x:Int).toNat) ((0:Int),List.replicate 8 (0:Int),List.replicate 8 (List.replicate
 4 (0:Int)))).1 % 1016+sh % 1016))∧placeK k (IntKind.wrap .i64 ((List.getD l (0+(x:Int).toNat) ((0:Int),List.replicate 8 (0:Int),List.replicate 8 (List.replicate 4 (0:Int)))).1 % 1016+sh % 1016))<(↑ (127:Nat):Int))∧(placeK k (IntKind.wrap
 .i64 ((List.getD l (0+(x:Int).toNat) ((0:Int),List.replicate 8 (0:Int),List.replicate 8 (List.replicate 4 (0:Int)))).1 % 1016+sh % 1016))).toNat<127)∧∃ (y:Nat),(sh=sh∧0=0∧0=0∧0=0∧0=0∧n=n∧(n:Int)=(n:Int)∧IntKind.wrap .i64 ((x:Int)+1)=(y:Int)∧l=l∧r=r∧k=k∧false=false∧(0:Int)
 :: List.replicate (nat_lit 126) (0:Int)=List.replicate 127 (0:Int)∧false=false∧List.set (voteL k sh (firstsTo l x)) (placeK k (IntKind.wrap .i64 ((List.getD l (0+(x:Int).toNat) ((0:Int),List.replicate 8 (0:Int),List.replicate 8 (List.replicate
 4 (0:Int)))).1 % 1016+sh % 1016))).toNat (IntKind.wrap .i64 (List.getD (voteL k sh (firstsTo l x)) (placeK k (IntKind.wrap .i64 ((List.getD l (0+(x:Int).toNat) ((0:Int),List.replicate 8 (0:Int),List.replicate 8 (List.replicate 4 (0:Int)))).1
 % 1016+sh % 1016))).toNat (0:Int)+spkF (corrF k (IntKind.wrap .i64 ((List.getD l (0+(x:Int).toNat) ((0:Int),List.replicate 8 (0:Int),List.replicate 8 (List.replicate 4 (0:Int)))).1 % 1016+sh % 1016)) ((List.getD l (0+(x:Int).toNat)
 ((0:Int),List.replicate 8 (0:Int),List.replicate 8 (List.replicate 4 (0:Int)))).2.1,(List.getD l (0+(x:Int).toNat) ((0:Int),List.replicate 8 (0:Int),List.replicate 8 (List.replicate 4 (0:Int)))).2.2))))=voteL k sh (firstsTo l y)∧false=false∧putK
 (Ty.int .i64) Ty.bool (metL (firstsTo l x)) (List.getD l (0+(x:Int).toNat) ((0:Int),List.replicate 8 (0:Int),List.replicate 8 (List.replicate 4 (0:Int)))).1 true=metL (firstsTo l y))∧y≤List.length l∧List.length l - y<List.length l -
 x else voteL k sh (firstsTo l x)=votesF k l sh∧l=l∧r=r
theorem vcv54 (r : Bool) (k : List Int) (l : List (Int × List Int × List (List Int))) (sh : Int) (n : Nat) : Pv54 r k l sh n = vcFun Cv54 (annv54 r k l sh n) Go.Proofs.Tryd.f54 [⟨.arr 16 (.int .u8), k⟩, ⟨.ref .slice, .slice 0 (.cons (.int .i64) (.last (.cons (.arr 8 (.int .i64)) (.last (.arr 8 (.arr 4 (.int .i64))))))) [] 0 n⟩, ⟨.int .i64, sh⟩] [⟨r, false, (.cons (.int .i64) (.last (.cons (.arr 8 (.int .i64)) (.last (.arr 8 (.arr 4 (.int .i64))))))), l⟩] (outv54 r k l sh n) := by kernel_rfl

noncomputable def Cv54b : Ctx := ⟨Go.Proofs.Tryd.prog, D, Gv54, (fun _ _ => none), fun _ => []⟩
def annv54b (_k : List Int) (_sh : Int) : Nat → St → Option Ann := fun _ _ => some ⟨Nat, [2, 3, 6, 7, 8, 13, 14], [0, 1, 2], fun _ => [(15, .v (.int .i64) (0 : Int))], fun i => [(3, some ⟨true, true, .cons (.int .i64) (.last .bool), metL []⟩)], fun i => i = 0, fun i => 0⟩
def outv54b (_k : List Int) (_sh : Int) : COut := ⟨[], .v (.arr 127 (.int .i64)) (List.replicate 127 0), [], []⟩
def spv54b : Spec := fun args ins => match args, ins with
  | [⟨.arr 16 (.int .u8), k⟩, ⟨.ref .slice, .nilslice⟩, ⟨.int .i64, sh⟩], [] => some (outv54b k sh)
  | _, _ => none
def Gv54b := addM Gv54 54 spv54b
def Pv54b (k : List Int) (sh : Int) : Prop :=
 ∃ (x:Nat),((sh=sh∧0=0∧0=0∧0=0∧(0:Int)=0∧(0:Int)=0∧k=k∧false=false∧(0:Int) :: List.replicate (nat_lit 126) (0:Int)=List.replicate 127 (0:Int)∧false=false∧(0:Int) :: List.replicate (nat_lit 126) (0:Int)=List.replicate 127 (0:Int)∧false=false∧[]=metL
 [])∧x=0)∧∀ (x:Nat),x=0→(IntKind.min .i64≤0∧0≤IntKind.max .i64∧∀ (y:Int × Bool),List.Mem y (metL [])→IntKind.min .i64≤y.1∧y.1≤IntKind.max .i64)→(0:Int) :: List.replicate (nat_lit 126) (0:Int)=List.replicate 127 (0:Int)
theorem vcv54b (k : List Int) (sh : Int) : Pv54b k sh = vcFun Cv54b (annv54b k sh) Go.Proofs.Tryd.f54 [⟨.arr 16 (.int .u8), k⟩, ⟨.ref .slice, .nilslice⟩, ⟨.int .i64, sh⟩] [] (outv54b k sh) := by kernel_rfl

noncomputable def Cv24 : Ctx := ⟨Go.Proofs.Tryd.prog, D, Gv54b, (fun _ _ => none), fun _ => []⟩
def annv24 (_r : Bool) (_k : List Int) (_l : List (Int × List Int × List (List Int))) (_n : Nat) : Nat → St → Option Ann := fun _ _ => none
def outv24 (_r : Bool) (k : List Int) (l : List (Int × List Int × List (List Int))) (n : Nat) : COut := ⟨[n = l.length ∧ n ≤ 1000000], .v (.arr 127 (.int .i64)) (votesF k l 0), [], []⟩
def spv24 : Spec := fun args ins => match args, ins with
  | [⟨.arr 16 (.int .u8), k⟩, ⟨.ref .slice, .slice 0 (.cons (.int .i64) (.last (.cons (.arr 8 (.int .i64)) (.last (.arr 8 (.arr 4 (.int .i64))))))) [] 0 n⟩], [⟨r, false, (.cons (.int .i64) (.last (.cons (.arr 8 (.int .i64)) (.last (.arr 8 (.arr 4 (.int .i64))))))), l⟩] => some (outv24 r k l n)
  | _, _ => none
def Gv24 := addG Gv54b 24 spv24
def Pv24 (r : Bool) (k : List Int) (l : List (Int × List Int × List (List Int))) (n : Nat) : Prop :=
 (n=List.length l∧n≤1000000)∧votesF k l (0:Int)=votesF k l (0:Int)∧l=l∧r=r
theorem vcv24 (r : Bool) (k : List Int) (l : List (Int × List Int × List (List Int))) (n : Nat) : Pv24 r k l n = vcFun Cv24 (annv24 r k l n) Go.Proofs.Tryd.f24 [⟨.arr 16 (.int .u8), k⟩, ⟨.ref .slice, .slice 0 (.cons (.int .i64) (.last (.cons (.arr 8 (.int .i64)) (.last (.arr 8 (.arr 4 (.int .i64))))))) [] 0 n⟩] [⟨r, false, (.cons (.int .i64) (.last (.cons (.arr 8 (.int .i64)) (.last (.arr 8 (.arr 4 (.int .i64))))))), l⟩] (outv24 r k l n) := by kernel_rfl

noncomputable def Cv24b : Ctx := ⟨Go.Proofs.Tryd.prog, D, Gv24, (fun _ _ => none), fun _ => []⟩
def annv24b (_k : List Int) : Nat → St → Option Ann := fun _ _ => none
def outv24b (_k : List Int) : COut := ⟨[], .v (.arr 127 (.int .i64)) (List.replicate 127 0), [], []⟩
def spv24b : Spec := fun args ins => match args, ins with
  | [⟨.arr 16 (.int .u8), k⟩, ⟨.ref .slice, .nilslice⟩], [] => some (outv24b k)
  | _, _ => none
def Gv24b := addM Gv24 24 spv24b
def Pv24b (k : List Int) : Prop :=
 (0:Int) :: List.replicate (nat_lit 126) (0:Int)=List.replicate 127 (0:Int)
theorem vcv24b (k : List Int) : Pv24b k = vcFun Cv24b (annv24b k) Go.Proofs.Tryd.f24 [⟨.arr 16 (.int .u8), k⟩, ⟨.ref .slice, .nilslice⟩] [] (outv24b k) := by kernel_rfl

noncomputable def Cv23 : Ctx := ⟨Go.Proofs.Tryd.prog, D, Gv24b, (fun _ _ => none), fun _ => []⟩
def annv23 (_r : Bool) (_k : List Int) (_l : List (Int × List Int × List (List Int))) (_n : Nat) : Nat → St → Option Ann := fun _ _ => none
def outv23 (_r : Bool) (k : List Int) (l : List (Int × List Int × List (List Int))) (n : Nat) : COut := ⟨[n = l.length ∧ n ≤ 1000000], .tup [⟨.int .i64, payI k l⟩, ⟨.int .i64, payE k l⟩], [], []⟩
def spv23 : Spec := fun args ins => match args, ins with
  | [⟨.arr 16 (.int .u8), k⟩, ⟨.ref .slice, .slice 0 (.cons (.int .i64) (.last (.cons (.arr 8 (.int .i64)) (.last (.arr 8 (.arr 4 (.int .i64))))))) [] 0 n⟩], [⟨r, false, (.cons (.int .i64) (.last (.cons (.arr 8 (.int .i64)) (.last (.arr 8 (.arr 4 (.int .i64))))))), l⟩] => some (outv23 r k l n)
  | _, _ => none
def Gv23 := addG Gv24b 23 spv23
def Pv23 (r : Bool) (k : List Int) (l : List (Int × List Int × List (List Int))) (n : Nat) : Prop :=
 (n=List.length l∧n≤1000000)∧takeI k (votesF k l (0:Int))=payI k l∧takeE k (votesF k l (0:Int))=payE k l∧l=l∧r=r
theorem vcv23 (r : Bool) (k : List Int) (l : List (Int × List Int × List (List Int))) (n : Nat) : Pv23 r k l n = vcFun Cv23 (annv23 r k l n) Go.Proofs.Tryd.f23 [⟨.arr 16 (.int .u8), k⟩, ⟨.ref .slice, .slice 0 (.cons (.int .i64) (.last (.cons (.arr 8 (.int .i64)) (.last (.arr 8 (.arr 4 (.int .i64))))))) [] 0 n⟩] [⟨r, false, (.cons (.int .i64) (.last (.cons (.arr 8 (.int .i64)) (.last (.arr 8 (.arr 4 (.int .i64))))))), l⟩] (outv23 r k l n) := by kernel_rfl

noncomputable def Cv23b : Ctx := ⟨Go.Proofs.Tryd.prog, D, Gv23, (fun _ _ => none), fun _ => []⟩
def annv23b (_k : List Int) : Nat → St → Option Ann := fun _ _ => none
def outv23b (k : List Int) : COut := ⟨[], .tup [⟨.int .i64, takeI k (List.replicate 127 0)⟩, ⟨.int .i64, takeE k (List.replicate 127 0)⟩], [], []⟩
def spv23b : Spec := fun args ins => match args, ins with
  | [⟨.arr 16 (.int .u8), k⟩, ⟨.ref .slice, .nilslice⟩], [] => some (outv23b k)
  | _, _ => none
def Gv23b := addM Gv23 23 spv23b
def Pv23b (k : List Int) : Prop :=
 takeI k (List.replicate 127 (0:Int))=takeI k (List.replicate 127 (0:Int))∧takeE k (List.replicate 127 (0:Int))=takeE k (List.replicate 127 (0:Int))
theorem vcv23b (k : List Int) : Pv23b k = vcFun Cv23b (annv23b k) Go.Proofs.Tryd.f23 [⟨.arr 16 (.int .u8), k⟩, ⟨.ref .slice, .nilslice⟩] [] (outv23b k) := by kernel_rfl

noncomputable def Cv28 : Ctx := ⟨Go.Proofs.Tryd.prog, D, Gv23b, (fun _ _ => none), fun _ => []⟩
def annv28 (_r : Bool) (k : List Int) (l : List (Int × List Int × List (List Int))) (a b : Int) (_n : Nat) : Nat → St → Option Ann := fun _ _ => some ⟨Nat, [1, 2, 3, 4], [0, 1], fun i => [(10, .v (.int .i64) (i : Int)), (9, .v (.ref .slice) (.slice 2 (.cons (.int .i64) (.last (.int .i64))) [] 0 (srchL k l a i).length))], fun i => [(2, some ⟨false, false, .cons (.int .i64) (.last (.int .i64)), srchL k l a i⟩)], fun i => i ≤ srchN a b, fun i => srchN a b - i⟩
def outv28 (_r : Bool) (k : List Int) (l : List (Int × List Int × List (List Int))) (a b : Int) (n : Nat) : COut := ⟨[(n = l.length ∧ n ≤ 1000000) ∧ (-1000000 ≤ a ∧ a ≤ 1000000) ∧ -1000000 ≤ b ∧ b ≤ 1000000], .v (.ref .slice) (.slice 1 (.cons (.int .i64) (.last (.int .i64))) [] 0 (srchL k l a (srchN a b)).length), [], [⟨false, false, .cons (.int .i64) (.last (.int .i64)), srchL k l a (srchN a b)⟩]⟩
def spv28 : Spec := fun args ins => match args, ins with
  | [⟨.arr 16 (.int .u8), k⟩, ⟨.ref .slice, .slice 0 (.cons (.int .i64) (.last (.cons (.arr 8 (.int .i64)) (.last (.arr 8 (.arr 4 (.int .i64))))))) [] 0 n⟩, ⟨.int .i64, a⟩, ⟨.int .i64, b⟩], [⟨r, false, (.cons (.int .i64) (.last (.cons (.arr 8 (.int .i64)) (.last (.arr 8 (.arr 4 (.int .i64))))))), l⟩] => some (outv28 r k l a b n)
  | _, _ => none
def Gv28 := addG Gv23b 28 spv28
def Pv28 (r : Bool) (k : List Int) (l : List (Int × List Int × List (List Int))) (a b : Int) (n : Nat) : Prop :=
 ∃ (x:Nat),((0=0∧n=n∧a=a∧b=b∧0=0∧List.length (srchL k l a x)=0∧0=(x:Int)∧l=l∧r=r∧k=k∧false=false∧srchL k l a x=[])∧x≤srchN a b)∧∀ (x:Nat),x≤srchN a b→(IntKind.min .i64≤(x:Int)∧(x:Int)≤IntKind.max .i64∧∀ (y:Int × Int),List.Mem y (srchL
 k l a x)→IntKind.min .i64≤y.1∧y.1≤IntKind.max .i64∧IntKind.min .i64≤y.2∧y.2≤IntKind.max .i64)→∀ (b_1:Bool),decide ((x:Int)<64)=b_1→∀ (b_2:Bool),(bif b_1 then decide (a≤b) else false)=b_2→((b_1=true→b_1=true∧b_1=true)∧(b_1=true→b_1=true)∧(b_2=true→b_2=true∧b_2=true)∧(b_2=true→b_2=true∧b_2=true)∧(b_2=true→b_2=true))∧bif
 bif b_2 then decide ((x:Int)≤IntKind.wrap .i64 (b - a)) else false then (n=List.length l∧n≤1000000)∧bif decide (takeE k (votesF k l (IntKind.wrap .i64 (a+(x:Int))))=0) then ((1:Nat)≤1∧0+List.length (srchL k l a x)=List.length (srchL
 k l a x)∧(List.length (srchL k l a x)+List.length (seg ((IntKind.wrap .i64 (a+(x:Int)),takeI k (votesF k l (IntKind.wrap .i64 (a+(x:Int))))) :: List.replicate (nat_lit 0) ((0:Int),(0:Int))) (0:Nat) (1:Nat))) * 16≤70368744177664)∧∃ (y:Nat),(0=0∧n=n∧a=a∧b=b∧0=0∧0=0∧List.length
 (srchL k l a x)+List.length (seg ((IntKind.wrap .i64 (a+(x:Int)),takeI k (votesF k l (IntKind.wrap .i64 (a+(x:Int))))) :: List.replicate (nat_lit 0) ((0:Int),(0:Int))) (0:Nat) (1:Nat))=List.length (srchL k l a y)∧IntKind.wrap .i64 ((x:Int)+1)=(y:Int)∧l=l∧r=r∧k=k∧false=false∧List.append
 (List.drop (0:Nat) (srchL k l a x)) (seg ((IntKind.wrap .i64 (a+(x:Int)),takeI k (votesF k l (IntKind.wrap .i64 (a+(x:Int))))) :: List.replicate (nat_lit 0) ((0:Int),(0:Int))) (0:Nat) (1:Nat))=srchL k l a y∧false=false)∧y≤srchN a b∧srchN
 a b - y<srchN a b - x else ∃ (y:Nat),(0=0∧n=n∧a=a∧b=b∧0=0∧0=0∧List.length (srchL k l a x)=List.length (srchL k l a y)∧IntKind.wrap .i64 ((x:Int)+1)=(y:Int)∧l=l∧r=r∧k=k∧false=false∧srchL k l a x=srchL k l a y∧false=false)∧y≤srchN a b∧srchN
 a b - y<srchN a b - x else 0=0∧List.length (srchL k l a x)=List.length (srchL k l a (srchN a b))∧l=l∧r=r∧srchL k l a x=srchL k l a (srchN a b)∧false=false
theorem vcv28 (r : Bool) (k : List Int) (l : List (Int × List Int × List (List Int))) (a b : Int) (n : Nat) : Pv28 r k l a b n = vcFun Cv28 (annv28 r k l a b n) Go.Proofs.Tryd.f28 [⟨.arr 16 (.int .u8), k⟩, ⟨.ref .slice, .slice 0 (.cons (.int .i64) (.last (.cons (.arr 8 (.int .i64)) (.last (.arr 8 (.arr 4 (.int .i64))))))) [] 0 n⟩, ⟨.int .i64, a⟩, ⟨.int .i64, b⟩] [⟨r, false, (.cons (.int .i64) (.last (.cons (.arr 8 (.int .i64)) (.last (.arr 8 (.arr 4 (.int .i64))))))), l⟩] (outv28 r k l a b n) := by kernel_rfl

noncomputable def Cv21 : Ctx := ⟨Go.Proofs.Tryd.prog, D, Gv28, (fun _ _ => none), fun _ => []⟩
def annv21 (_k : List Int) (_f : Int) : Nat → St → Option Ann := fun _ _ => none
def outv21 (k : List Int) (f : Int) : COut := ⟨[], .v (.int .i64) (placeK k f), [], []⟩
def spv21 : Spec := fun args ins => match args, ins with
  | [⟨.arr 16 (.int .u8), k⟩, ⟨.int .i64, f⟩], [] => some (outv21 k f)
  | _, _ => none
def Gv21 := addG Gv28 21 spv21
def Pv21 (k : List Int) (f : Int) : Prop :=
 (((1:Int)≤127∧(127:Int)≤256)∧(127:Int)≠0∧(0≤Int.tmod (f % 1016) (127:Int)∧Int.tmod (f % 1016) (127:Int)<(↑ (127:Nat):Int))∧0+(Int.tmod (f % 1016) (127:Int)).toNat<List.length (ordK k (112:Int) (127:Nat)))∧List.getD (ordK k (112:Int)
 (127:Nat)) (0+(Int.tmod (f % 1016) (127:Int)).toNat) (0:Int)=placeK k f
theorem vcv21 (k : List Int) (f : Int) : Pv21 k f = vcFun Cv21 (annv21 k f) Go.Proofs.Tryd.f21 [⟨.arr 16 (.int .u8), k⟩, ⟨.int .i64, f⟩] [] (outv21 k f) := by kernel_rfl

noncomputable def Cv22 : Ctx := ⟨Go.Proofs.Tryd.prog, D, Gv21, (fun _ _ => none), fun _ => []⟩
def annv22 (k : List Int) (f : Int) (b : Bool) : Nat → St → Option Ann := fun _ _ => some ⟨Nat, [2, 3, 6, 7, 8], [0, 1, 3], fun i => [(9, .v (.int .i64) (i : Int))], fun i => [(2, some ⟨false, true, (.cons (.arr 8 (.int .i64)) (.last (.arr 8 (.arr 4 (.int .i64))))), [(List.replicate 8 0, List.replicate i (loudR (chipsK k f) b) ++ List.replicate (8 - i) (List.replicate 4 0))]⟩)], fun i => i ≤ 8, fun i => 8 - i⟩
def outv22 (k : List Int) (f : Int) (b : Bool) : COut := ⟨[], .v (.cons (.arr 8 (.int .i64)) (.last (.arr 8 (.arr 4 (.int .i64))))) (loudS k f b), [], []⟩
def spv22 : Spec := fun args ins => match args, ins with
  | [⟨.arr 16 (.int .u8), k⟩, ⟨.int .i64, f⟩, ⟨.bool, b⟩], [] => some (outv22 k f b)
  | _, _ => none
def Gv22 := addG Gv21 22 spv22
def Pv22 (k : List Int) (f : Int) (b : Bool) : Prop :=
 ∃ (x:Nat),((b=b∧0=0∧0=0∧0=0∧0=0∧0=(x:Int)∧k=k∧false=false∧List.replicate 8 (0:Int)=List.replicate 8 (0:Int)∧List.replicate 8 (List.replicate 4 (0:Int))=List.replicate 8 (List.replicate 4 (0:Int))∧false=false∧List.replicate 8 (0:Int)=List.replicate
 8 (0:Int)∧List.replicate 8 (List.replicate 4 (0:Int))=List.replicate x (loudR (chipsK k f) b) ++ List.replicate (8 - x) (List.replicate 4 (0:Int))∧false=false∧chipsK k f=chipsK k f∧false=false)∧x≤8)∧∀ (x:Nat),x≤8→(IntKind.min .i64≤(x:Int)∧(x:Int)≤IntKind.max
 .i64∧∀ (y:List Int × List (List Int)),List.Mem y [(List.replicate 8 (0:Int),List.replicate x (loudR (chipsK k f) b) ++ List.replicate (8 - x) (List.replicate 4 (0:Int)))]→List.length y.1=8∧(∀ (y_1:Int),List.Mem y_1 y.1→IntKind.min .i64≤y_1∧y_1≤IntKind.max
 .i64)∧List.length y.2=8∧∀ (y_1:List Int),List.Mem y_1 y.2→List.length y_1=4∧∀ (y:Int),List.Mem y y_1→IntKind.min .i64≤y∧y≤IntKind.max .i64)→bif decide ((x:Int)<8) then (((0:Int)≤0∧0<(↑ (4:Nat):Int))∧(0:Nat)<4∧((0:Int)≤1∧1<(↑ (4:Nat):Int))∧(1:Nat)<4∧(0≤(x:Int)∧(x:Int)<(↑
 (8:Nat):Int))∧(x:Int).toNat<8)∧bif b then (((0:Int)≤0∧0<(↑ (4:Nat):Int))∧(0:Nat)<4∧((0:Int)≤1∧1<(↑ (4:Nat):Int))∧(1:Nat)<4∧(0≤(x:Int)∧(x:Int)<(↑ (8:Nat):Int))∧(x:Int).toNat<8)∧∃ (y:Nat),(b=b∧0=0∧0=0∧0=0∧0=0∧IntKind.wrap .i64 ((x:Int)+1)=(y:Int)∧k=k∧false=false∧List.replicate
 8 (0:Int)=List.replicate 8 (0:Int)∧List.replicate 8 (List.replicate 4 (0:Int))=List.replicate 8 (List.replicate 4 (0:Int))∧false=false∧List.replicate 8 (0:Int)=List.replicate 8 (0:Int)∧List.set (List.set (List.replicate x (loudR (chipsK
 k f) b) ++ List.replicate (8 - x) (List.replicate 4 (0:Int))) (x:Int).toNat (List.getD (chipsK k f) (0:Nat) (0:Int) :: List.set (List.replicate (nat_lit 3) (0:Int)) (nat_lit 0) (List.getD (chipsK k f) (1:Nat) (0:Int)))) (x:Int).toNat
 (IntKind.wrap .i64 (0 - List.getD (chipsK k f) (0:Nat) (0:Int)) :: List.set (List.replicate (nat_lit 3) (0:Int)) (nat_lit 0) (IntKind.wrap .i64 (0 - List.getD (chipsK k f) (1:Nat) (0:Int))))=List.replicate y (loudR (chipsK k f) b) ++
 List.replicate (8 - y) (List.replicate 4 (0:Int))∧false=false∧chipsK k f=chipsK k f∧false=false)∧y≤8∧8 - y<8 - x else ∃ (y:Nat),(b=b∧0=0∧0=0∧0=0∧0=0∧IntKind.wrap .i64 ((x:Int)+1)=(y:Int)∧k=k∧false=false∧List.replicate 8 (0:Int)=List.replicate
 8 (0:Int)∧List.replicate 8 (List.replicate 4 (0:Int))=List.replicate 8 (List.replicate 4 (0:Int))∧false=false∧List.replicate 8 (0:Int)=List.replicate 8 (0:Int)∧List.set (List.replicate x (loudR (chipsK k f) b) ++ List.replicate (8 -
 x) (List.replicate 4 (0:Int))) (x:Int).toNat (List.getD (chipsK k f) (0:Nat) (0:Int) :: List.set (List.replicate (nat_lit 3) (0:Int)) (nat_lit 0) (List.getD (chipsK k f) (1:Nat) (0:Int)))=List.replicate y (loudR (chipsK k f) b) ++ List.replicate
 (8 - y) (List.replicate 4 (0:Int))∧false=false∧chipsK k f=chipsK k f∧false=false)∧y≤8∧8 - y<8 - x else List.replicate 8 (0:Int)=(loudS k f b).1∧List.replicate x (loudR (chipsK k f) b) ++ List.replicate (8 - x) (List.replicate 4 (0:Int))=(loudS
 k f b).2
theorem vcv22 (k : List Int) (f : Int) (b : Bool) : Pv22 k f b = vcFun Cv22 (annv22 k f b) Go.Proofs.Tryd.f22 [⟨.arr 16 (.int .u8), k⟩, ⟨.int .i64, f⟩, ⟨.bool, b⟩] [] (outv22 k f b) := by kernel_rfl

noncomputable def Cv19 : Ctx := ⟨Go.Proofs.Tryd.prog, D, Gv22, (fun _ _ => none), fun _ => []⟩
def annv19  : Nat → St → Option Ann := fun _ _ => none
def outv19  : COut := ⟨[], .v .bool true, [], []⟩
def spv19 : Spec := fun args ins => match args, ins with
  | [], [] => some outv19
  | _, _ => none
def Gv19 := addG Gv22 19 spv19
def Pv19 : Prop :=
 (1=1∧(1:Nat)≤1000000)∧((0≤placeK (List.replicate 16 (0:Int)) (7:Int)∧placeK (List.replicate 16 (0:Int)) (7:Int)<(↑ (127:Nat):Int))∧(122:Nat)<127)∧true=true
theorem vcv19 : Pv19  = vcFun Cv19 (annv19 ) Go.Proofs.Tryd.f19 [] [] outv19 := by kernel_rfl

end Go.SL.A

/- Payloads of packets: the code as plain conditions holds. -/
namespace Go.SL.A
open Go Go.SL Go.SL.S
set_option maxRecDepth 100000

theorem place_at (k : List Int) (f : Int) : (0 ≤ Int.tmod (f % 1016) 127 ∧ Int.tmod (f % 1016) 127 < ((127 : Nat) : Int)) ∧ (Int.tmod (f % 1016) 127).toNat < (ordK k 112 127).length ∧ (ordK k 112 127).getD (Int.tmod (f % 1016) 127).toNat 0 = placeK k f := by
  have e : Int.tmod (f % 1016) 127 = f % 1016 % 127 := Int.tmod_eq_emod_of_nonneg (by omega)
  rw [e, ordK_len]
  exact ⟨⟨by omega, by omega⟩, by omega, rfl⟩
theorem purev32 (k : List Int) (f : Int) : Pv32 k f := by
  obtain ⟨h1, h2, h3⟩ := place_at k f
  unfold Pv32
  rw [Nat.zero_add]
  exact ⟨⟨by decide, by decide, h1, h2⟩, h3⟩
theorem purev21 (k : List Int) (f : Int) : Pv21 k f := by
  obtain ⟨h1, h2, h3⟩ := place_at k f
  unfold Pv21
  rw [Nat.zero_add]
  exact ⟨⟨by decide, by decide, h1, h2⟩, h3⟩
theorem met_get (x : Int) : ∀ m : List PKQ, getE (t := .bool) (getK (.int .i64) .bool (metL m) x) = hasF m x
  | [] => rfl
  | p :: m => by
    have ih := met_get x m
    unfold metL at ih ⊢
    rw [List.map_cons, getK]
    show getE (t := .bool) (match decide (x = p.1) with | true => some true | false => _) = _
    unfold hasF at ih ⊢
    rw [List.any_cons]
    by_cases h : x = p.1
    · rw [decide_eq_true h, decide_eq_true h.symm]; rfl
    · rw [decide_eq_false h, decide_eq_false (fun e => h e.symm), Bool.false_or]; exact ih
theorem met_put (p : PKQ) : ∀ m : List PKQ, hasF m p.1 = false → putK (.int .i64) .bool (metL m) p.1 true = metL (m ++ [p])
  | [], _ => rfl
  | q :: m, h => by
    unfold hasF at h
    rw [List.any_cons, Bool.or_eq_false_iff] at h
    have ih := met_put p m h.2
    unfold metL at ih ⊢
    rw [List.map_cons, List.cons_append, List.map_cons, putK]
    show (match decide (p.1 = q.1) with | true => _ | false => _) = _
    rw [decide_eq_false (fun e => of_decide_eq_false h.1 e.symm)]
    exact congrArg (List.cons (q.1, true)) ih
theorem spk_one (c : Int) : -1 ≤ spkF c ∧ spkF c ≤ 1 := by unfold spkF; split <;> (try split) <;> omega
theorem add_bound {v : List Int} {p x M : Int} (hx : -1 ≤ x ∧ x ≤ 1) (hp : p.toNat < v.length) (h : ∀ q : Nat, -M ≤ v.getD q 0 ∧ v.getD q 0 ≤ M) (q : Nat) : -(M + 1) ≤ (addAt v p x).getD q 0 ∧ (addAt v p x).getD q 0 ≤ M + 1 := by
  rw [getD_addAt hp]
  have := h q
  split <;> omega
theorem vote_bound (k : List Int) (sh : Int) : ∀ (n : Nat) (m : List PKQ), m.length = n → ∀ q : Nat, -(n : Int) ≤ (voteL k sh m).getD q 0 ∧ (voteL k sh m).getD q 0 ≤ (n : Int)
  | 0, m, h, q => by
    rw [List.length_eq_zero_iff.1 h]
    unfold voteL
    rw [List.foldl_nil, List.getD_eq_getElem?_getD, List.getElem?_replicate]
    split <;> simp
  | n + 1, m, h, q => by
    obtain ⟨a, p, rfl⟩ : ∃ a p, m = a ++ [p] := by
      have hne : m ≠ [] := by intro e; rw [e] at h; cases h
      exact ⟨m.dropLast, m.getLast hne, (List.dropLast_concat_getLast hne).symm⟩
    have ih := vote_bound k sh n a (by rw [List.length_append] at h; simp at h; exact h)
    have hl := vote_len k sh a
    have pf := place_fit k (p.1 % 1016 + sh % 1016)
    unfold voteL at ih hl ⊢
    rw [List.foldl_append, List.foldl_cons, List.foldl_nil]
    have := add_bound (spk_one (corrF k (p.1 % 1016 + sh % 1016) p.2)) (show (placeK k (p.1 % 1016 + sh % 1016)).toNat < _ by rw [hl]; omega) ih q
    unfold voteAdd
    push_cast
    exact this
theorem firsts_len (l : List PKQ) : ∀ i, (firstsTo l i).length ≤ i
  | 0 => Nat.le_refl _
  | i + 1 => by
    have := firsts_len l i
    rw [firstsTo]
    split
    · omega
    · rw [List.length_append, List.length_singleton]; omega
theorem tn127 {x : Int} (h : 0 ≤ x ∧ x < 127) : x.toNat < 127 := by omega
theorem wrap_add {a b M : Int} (ha : -M ≤ a ∧ a ≤ M) (hb : -1 ≤ b ∧ b ≤ 1) (hM : M ≤ 2000000) : IntKind.i64.wrap (a + b) = a + b := w64 (by omega) (by omega)
theorem purev54 (r : Bool) (k : List Int) (l : List (Int × List Int × List (List Int))) (sh : Int) (n : Nat) (hp : n = l.length ∧ n ≤ 1000000) : Pv54 r k l sh n := by
  obtain ⟨rfl, hn⟩ := hp
  unfold Pv54
  simp only [eq_self, true_and, and_true, Int.toNat_natCast, Nat.zero_add]
  refine ⟨0, ⟨⟨rfl, rfl, rfl, rfl⟩, Nat.zero_le _⟩, fun i hi hw => ?_⟩
  clear hw
  by_cases h : i < l.length
  · rw [decide_eq_true (show (i : Int) < (l.length : Int) by omega), cond_true]
    have ez : List.getD l i (0, List.replicate 8 0, List.replicate 8 (List.replicate 4 0)) = l.getD i zeroK := rfl
    rw [ez]
    have e0 : firstsTo l (i + 1) = if hasF (firstsTo l i) (l.getD i zeroK).1 then firstsTo l i else firstsTo l i ++ [l.getD i zeroK] := firstsTo.eq_2 l i
    have hfl := firsts_len l i
    have hM : ((firstsTo l i).length : Int) ≤ 2000000 := by omega
    have si := step_i (i := i) (by omega)
    have ii : i + 1 ≤ l.length ∧ l.length - (i + 1) < l.length - i := by omega
    have hb := vote_bound k sh _ (firstsTo l i) rfl
    generalize firstsTo l i = m at *
    generalize l.getD i zeroK = p at *
    refine ⟨⟨⟨by omega, by omega⟩, h⟩, ?_⟩
    rw [met_get]
    cases hh : hasF m p.1 with
    | true =>
      rw [hh, if_pos rfl] at e0
      rw [cond_true]
      exact ⟨i + 1, ⟨si, rfl, by rw [e0], by rw [e0]⟩, ii.1, ii.2⟩
    | false =>
      rw [hh, if_neg (by decide)] at e0
      rw [cond_false]
      have ew : IntKind.i64.wrap (p.1 % 1016 + sh % 1016) = p.1 % 1016 + sh % 1016 := w64 (by omega) (by omega)
      rw [ew]
      have pf := place_fit k (p.1 % 1016 + sh % 1016)
      have pn : (placeK k (p.1 % 1016 + sh % 1016)).toNat < 127 := tn127 pf
      have hb' := hb (placeK k (p.1 % 1016 + sh % 1016)).toNat
      have hs := spk_one (corrF k (p.1 % 1016 + sh % 1016) p.2)
      refine ⟨⟨pf, pn, pf, pn⟩, i + 1, ⟨si, rfl, ?_, ?_⟩, ii.1, ii.2⟩
      · rw [e0]
        have es : (p.2.1, p.2.2) = p.2 := rfl
        rw [es, wrap_add hb' hs hM]
        unfold voteL
        rw [List.foldl_append, List.foldl_cons, List.foldl_nil]
        rfl
      · rw [e0]; exact met_put p m hh
  · have : i = l.length := by omega
    subst this
    rw [decide_eq_false (by omega), cond_false]
    rfl
theorem purev54b (k : List Int) (sh : Int) : Pv54b k sh := by
  unfold Pv54b
  simp only [eq_self, true_and, and_true]
  exact ⟨0, ⟨⟨rfl, rfl, rfl⟩, rfl⟩, fun _ _ _ => rfl⟩
theorem purev24 (r : Bool) (k : List Int) (l : List (Int × List Int × List (List Int))) (n : Nat) (hp : n = l.length ∧ n ≤ 1000000) : Pv24 r k l n := ⟨hp, rfl, rfl, rfl⟩
theorem purev24b (k : List Int) : Pv24b k := rfl
theorem purev23 (r : Bool) (k : List Int) (l : List (Int × List Int × List (List Int))) (n : Nat) (hp : n = l.length ∧ n ≤ 1000000) : Pv23 r k l n := ⟨hp, rfl, rfl, rfl, rfl⟩
theorem purev23b (k : List Int) : Pv23b k := ⟨rfl, rfl⟩
theorem srch_len (k : List Int) (l : List PKQ) (a : Int) : ∀ i, (srchL k l a i).length ≤ i
  | 0 => Nat.le_refl _
  | i + 1 => by
    have := srch_len k l a i
    rw [srchL, List.length_append]
    split <;> simp <;> omega
theorem purev28 (r : Bool) (k : List Int) (l : List (Int × List Int × List (List Int))) (a b : Int) (n : Nat) (hp : (n = l.length ∧ n ≤ 1000000) ∧ (-1000000 ≤ a ∧ a ≤ 1000000) ∧ -1000000 ≤ b ∧ b ≤ 1000000) : Pv28 r k l a b n := by
  obtain ⟨hn, ha, hb⟩ := hp
  unfold Pv28
  simp only [eq_self, true_and, and_true, Int.toNat_natCast, Nat.zero_add]
  refine ⟨0, ⟨⟨rfl, rfl, rfl⟩, Nat.zero_le _⟩, fun i hi hw => ?_⟩
  clear hw
  have hN : srchN a b ≤ 64 ∧ (i < srchN a b ↔ (i < 64 ∧ a ≤ b ∧ (i : Int) ≤ b - a)) := by
    unfold srchN; split <;> omega
  rintro b1 rfl b2 rfl
  refine ⟨by simp, ?_⟩
  have ed : IntKind.i64.wrap (b - a) = b - a := w64 (by omega) (by omega)
  rw [ed]
  by_cases h : i < srchN a b
  · obtain ⟨h1, h2, h3⟩ := hN.2.1 h
    rw [decide_eq_true (show (i : Int) < 64 by omega), cond_true, decide_eq_true h2, cond_true, decide_eq_true h3, cond_true]
    refine ⟨hn, ?_⟩
    have ew : IntKind.i64.wrap (a + (i : Int)) = a + (i : Int) := w64 (by omega) (by omega)
    rw [ew]
    have hl := srch_len k l a i
    have e1 : srchL k l a (i + 1) = srchL k l a i ++ if takeE k (votesF k l (a + (i : Int))) = 0 then [(a + (i : Int), takeI k (votesF k l (a + (i : Int))))] else [] := srchL.eq_2 k l a i
    by_cases c : takeE k (votesF k l (a + (i : Int))) = 0
    · rw [if_pos c] at e1
      rw [decide_eq_true c, cond_true]
      have es : seg ((a + (i : Int), takeI k (votesF k l (a + (i : Int)))) :: List.replicate 0 (0, 0)) 0 1 = [(a + (i : Int), takeI k (votesF k l (a + (i : Int))))] := rfl
      refine ⟨⟨by decide, ?_⟩, i + 1, ⟨?_, step_i (by omega), ?_⟩, by omega, by omega⟩
      · show ((srchL k l a i).length + 1) * 16 ≤ _
        omega
      · rw [e1, List.length_append]; rfl
      · rw [e1]; rfl
    · rw [if_neg c, List.append_nil] at e1
      rw [decide_eq_false c, cond_false]
      exact ⟨i + 1, ⟨by rw [e1], step_i (by omega), by rw [e1]⟩, by omega, by omega⟩
  · have e : i = srchN a b := by omega
    have hc : (bif bif decide ((i : Int) < 64) then decide (a ≤ b) else false then decide ((i : Int) ≤ b - a) else false) = false := by
      have := hN.2
      by_cases h1 : (i : Int) < 64
      · by_cases h2 : a ≤ b
        · rw [decide_eq_true h1, cond_true, decide_eq_true h2, cond_true]
          exact decide_eq_false (fun h3 => h (this.2 ⟨by omega, h2, h3⟩))
        · rw [decide_eq_true h1, cond_true, decide_eq_false h2, cond_false]
      · rw [decide_eq_false h1, cond_false, cond_false]
    rw [hc, cond_false, e]
    exact ⟨rfl, rfl⟩
theorem purev22 (k : List Int) (f : Int) (b : Bool) : Pv22 k f b := by
  unfold Pv22
  simp only [eq_self, true_and, and_true, Int.toNat_natCast]
  refine ⟨0, ⟨⟨rfl, rfl⟩, Nat.zero_le _⟩, fun i hi hw => ?_⟩
  clear hw
  by_cases h : i < 8
  · rw [decide_eq_true (show (i : Int) < 8 by omega), cond_true]
    have i8 : ((0 : Int) ≤ (i : Int) ∧ (i : Int) < ((8 : Nat) : Int)) ∧ i < 8 := ⟨⟨by omega, by omega⟩, h⟩
    have s4 : ((0 : Int) ≤ 0 ∧ (0 : Int) < ((4 : Nat) : Int)) ∧ 0 < 4 ∧ ((0 : Int) ≤ 1 ∧ (1 : Int) < ((4 : Nat) : Int)) ∧ 1 < 4 := by decide
    have hset : ∀ (x y : List Int), List.set (List.set (List.replicate i x ++ List.replicate (8 - i) (List.replicate 4 0)) i y) i x = List.replicate (i + 1) x ++ List.replicate (8 - (i + 1)) (List.replicate 4 0) := fun x y => by
      rw [List.set_set, List.set_append, if_neg (by simp), List.length_replicate, Nat.sub_self, show 8 - i = (8 - (i + 1)) + 1 by omega, List.replicate_succ (n := 8 - (i + 1)), List.set_cons_zero, List.replicate_succ' (n := i), List.append_assoc]
      rfl
    have hset1 : ∀ (x : List Int), List.set (List.replicate i x ++ List.replicate (8 - i) (List.replicate 4 0)) i x = List.replicate (i + 1) x ++ List.replicate (8 - (i + 1)) (List.replicate 4 0) := fun x => by
      have := hset x x; rw [List.set_set] at this; exact this
    refine ⟨⟨s4.1, s4.2.1, s4.2.2.1, s4.2.2.2, i8.1, i8.2⟩, ?_⟩
    cases b with
    | true =>
      rw [cond_true]
      have c0 := chips_one k f (i := 0) (by omega)
      have c1 := chips_one k f (i := 1) (by omega)
      refine ⟨⟨s4.1, s4.2.1, s4.2.2.1, s4.2.2.2, i8.1, i8.2⟩, i + 1, ⟨step_i (by omega), ?_⟩, by omega, by omega⟩
      rw [w64 (by omega) (by omega), w64 (by omega) (by omega), Int.zero_sub, Int.zero_sub]
      exact hset _ _
    | false =>
      rw [cond_false]
      refine ⟨i + 1, ⟨step_i (by omega), ?_⟩, by omega, by omega⟩
      exact hset1 _
  · have : i = 8 := by omega
    subst this
    rw [decide_eq_false (by omega), cond_false]
    exact ⟨rfl, by rw [Nat.sub_self, List.replicate_zero, List.append_nil]; rfl⟩
theorem purev19 : Pv19 := by
  unfold Pv19
  have := place_fit (List.replicate 16 0) 7
  exact ⟨by decide, ⟨⟨this.1, by omega⟩, by decide⟩, rfl⟩
end Go.SL.A

/- Functions do what they are held to do. -/
namespace Go.SL.A
open Go Go.SL Go.SL.S
theorem sndv32 : Sound Go.Proofs.Tryd.prog Gv32 := sndvM.add ⟨_, Go.Proofs.Tryd.func32, by kernel_rfl, by kernel_rfl⟩ (by
  intro args ins out h hp
  unfold spv32 at h
  split at h
  · rename_i k f
    cases h
    exact vcFun_ok (C := Cv32) good sndvM Meth.none mix Go.Proofs.Tryd.func32 (annv32 k f) (fun hw => by rw [← vcv32 k f]; exact purev32 k f)
  · cases h)

theorem sndv54 : Sound Go.Proofs.Tryd.prog Gv54 := sndv32.add ⟨_, Go.Proofs.Tryd.func54, by kernel_rfl, by kernel_rfl⟩ (by
  intro args ins out h hp
  unfold spv54 at h
  split at h
  · rename_i k n sh r l
    cases h
    exact vcFun_ok (C := Cv54) good sndv32 Meth.none mix Go.Proofs.Tryd.func54 (annv54 r k l sh n) (fun hw => by rw [← vcv54 r k l sh n]; exact purev54 r k l sh n hp)
  · cases h)

theorem sndv54b : Sound Go.Proofs.Tryd.prog Gv54b := sndv54.addM ⟨_, Go.Proofs.Tryd.func54, by kernel_rfl, by kernel_rfl⟩ (by
  intro args ins out h hp
  unfold spv54b at h
  split at h
  · rename_i k sh
    cases h
    exact vcFun_ok (C := Cv54b) good sndv54 Meth.none mix Go.Proofs.Tryd.func54 (annv54b k sh) (fun hw => by rw [← vcv54b k sh]; exact purev54b k sh)
  · cases h)

theorem sndv24 : Sound Go.Proofs.Tryd.prog Gv24 := sndv54b.add ⟨_, Go.Proofs.Tryd.func24, by kernel_rfl, by kernel_rfl⟩ (by
  intro args ins out h hp
  unfold spv24 at h
  split at h
  · rename_i k n r l
    cases h
    exact vcFun_ok (C := Cv24) good sndv54b Meth.none mix Go.Proofs.Tryd.func24 (annv24 r k l n) (fun hw => by rw [← vcv24 r k l n]; exact purev24 r k l n hp)
  · cases h)

theorem sndv24b : Sound Go.Proofs.Tryd.prog Gv24b := sndv24.addM ⟨_, Go.Proofs.Tryd.func24, by kernel_rfl, by kernel_rfl⟩ (by
  intro args ins out h hp
  unfold spv24b at h
  split at h
  · rename_i k
    cases h
    exact vcFun_ok (C := Cv24b) good sndv24 Meth.none mix Go.Proofs.Tryd.func24 (annv24b k) (fun hw => by rw [← vcv24b k]; exact purev24b k)
  · cases h)

theorem sndv23 : Sound Go.Proofs.Tryd.prog Gv23 := sndv24b.add ⟨_, Go.Proofs.Tryd.func23, by kernel_rfl, by kernel_rfl⟩ (by
  intro args ins out h hp
  unfold spv23 at h
  split at h
  · rename_i k n r l
    cases h
    exact vcFun_ok (C := Cv23) good sndv24b Meth.none mix Go.Proofs.Tryd.func23 (annv23 r k l n) (fun hw => by rw [← vcv23 r k l n]; exact purev23 r k l n hp)
  · cases h)

theorem sndv23b : Sound Go.Proofs.Tryd.prog Gv23b := sndv23.addM ⟨_, Go.Proofs.Tryd.func23, by kernel_rfl, by kernel_rfl⟩ (by
  intro args ins out h hp
  unfold spv23b at h
  split at h
  · rename_i k
    cases h
    exact vcFun_ok (C := Cv23b) good sndv23 Meth.none mix Go.Proofs.Tryd.func23 (annv23b k) (fun hw => by rw [← vcv23b k]; exact purev23b k)
  · cases h)

theorem sndv28 : Sound Go.Proofs.Tryd.prog Gv28 := sndv23b.add ⟨_, Go.Proofs.Tryd.func28, by kernel_rfl, by kernel_rfl⟩ (by
  intro args ins out h hp
  unfold spv28 at h
  split at h
  · rename_i k n a b r l
    cases h
    exact vcFun_ok (C := Cv28) good sndv23b Meth.none mix Go.Proofs.Tryd.func28 (annv28 r k l a b n) (fun hw => by rw [← vcv28 r k l a b n]; exact purev28 r k l a b n hp)
  · cases h)

theorem sndv21 : Sound Go.Proofs.Tryd.prog Gv21 := sndv28.add ⟨_, Go.Proofs.Tryd.func21, by kernel_rfl, by kernel_rfl⟩ (by
  intro args ins out h hp
  unfold spv21 at h
  split at h
  · rename_i k f
    cases h
    exact vcFun_ok (C := Cv21) good sndv28 Meth.none mix Go.Proofs.Tryd.func21 (annv21 k f) (fun hw => by rw [← vcv21 k f]; exact purev21 k f)
  · cases h)

theorem sndv22 : Sound Go.Proofs.Tryd.prog Gv22 := sndv21.add ⟨_, Go.Proofs.Tryd.func22, by kernel_rfl, by kernel_rfl⟩ (by
  intro args ins out h hp
  unfold spv22 at h
  split at h
  · rename_i k f b
    cases h
    exact vcFun_ok (C := Cv22) good sndv21 Meth.none mix Go.Proofs.Tryd.func22 (annv22 k f b) (fun hw => by rw [← vcv22 k f b]; exact purev22 k f b)
  · cases h)

theorem sndv19 : Sound Go.Proofs.Tryd.prog Gv19 := sndv22.add ⟨_, Go.Proofs.Tryd.func19, by kernel_rfl, by kernel_rfl⟩ (by
  intro args ins out h hp
  unfold spv19 at h
  split at h
  · cases h
    exact vcFun_ok (C := Cv19) good sndv22 Meth.none mix Go.Proofs.Tryd.func19 (annv19 ) (fun hw => by rw [← vcv19 ]; exact purev19)
  · cases h)

end Go.SL.A

/- Functions and what they are held to do: bound to their code. -/
namespace Go.SL.A
open Go Go.SL Go.SL.S
set_option maxRecDepth 100000
noncomputable def Cv6 : Ctx := ⟨Go.Proofs.Tryd.prog, D, Gv19, (fun _ _ => none), fun _ => []⟩
def annv6 (_k : List Int) (_l : List (Int × List Int × List (List Int))) (_n : Nat) : Nat → St → Option Ann := fun _ _ => none
def outv6 (_k : List Int) (l : List (Int × List Int × List (List Int))) (n : Nat) : COut := ⟨[n = l.length], .v .bool true, [], []⟩
def spv6 : Spec := fun args ins => match args, ins with
  | [⟨.arr 16 (.int .u8), k⟩, ⟨.ref .slice, .slice 0 (.cons (.int .i64) (.last (.cons (.arr 8 (.int .i64)) (.last (.arr 8 (.arr 4 (.int .i64))))))) [] 0 n⟩], [⟨true, false, (.cons (.int .i64) (.last (.cons (.arr 8 (.int .i64)) (.last (.arr 8 (.arr 4 (.int .i64))))))), l⟩] => some (outv6 k l n)
  | _, _ => none
def Gv6 := addG Gv19 6 spv6
def Pv6 (k : List Int) (l : List (Int × List Int × List (List Int))) (n : Nat) : Prop :=
 ∀ (b:Bool),false=b→(((!b)=true→(!b)=true)∧((!b)=true→(!b)=true)∧(b=false→(!b)=true))∧bif bif b then true else decide (200<(n:Int)) then true=true∧l=l∧true=true else (n=List.length l∧n≤1000000)∧(n=List.length l∧n≤1000000)∧bif !decide
 (payE k l=0) then ∀ (b:Bool),decide (payI k l=0)=b→∀ (b_1:Bool),decide (payE k l=5)=b_1→((b=true→b=true)∧((b && b && !b_1)=true→(b && b && !b_1)=true)∧(b=true→(b && b)=true∧(b_1=false→(b && b && !b_1)=true))∧(b=true→b=true))∧(bif b
 then bif b_1 then true else decide (payE k l=6) else false)=true∧l=l∧true=true else bif mayL (payI k l) then mayL (payI k l)=true∧decide (far6 (decW (votesF k l (0:Int))) (decH (votesF k l (0:Int))) (encF (numP k (payI k l)))≤20)=true∧l=l∧true=true
 else (false=true→false=true)∧false=true∧l=l∧true=true
theorem vcv6 (k : List Int) (l : List (Int × List Int × List (List Int))) (n : Nat) : Pv6 k l n = vcFun Cv6 (annv6 k l n) Go.Proofs.Tryd.f6 [⟨.arr 16 (.int .u8), k⟩, ⟨.ref .slice, .slice 0 (.cons (.int .i64) (.last (.cons (.arr 8 (.int .i64)) (.last (.arr 8 (.arr 4 (.int .i64))))))) [] 0 n⟩] [⟨true, false, (.cons (.int .i64) (.last (.cons (.arr 8 (.int .i64)) (.last (.arr 8 (.arr 4 (.int .i64))))))), l⟩] (outv6 k l n) := by kernel_rfl

end Go.SL.A

/- What is found has its check: the code as a plain condition holds. -/
namespace Go.SL.A
open Go Go.SL Go.SL.S
set_option maxRecDepth 100000

theorem purev6 (k : List Int) (l : List (Int × List Int × List (List Int))) (n : Nat) (hp : n = l.length) : Pv6 k l n := by
  subst hp
  unfold Pv6
  rintro b rfl
  refine ⟨by simp, ?_⟩
  rw [cond_false]
  by_cases c : (200 : Int) < (l.length : Int)
  · rw [decide_eq_true c, cond_true]; exact ⟨rfl, rfl, rfl⟩
  · rw [decide_eq_false c, cond_false]
    have hl : l.length = l.length ∧ l.length ≤ 1000000 := by omega
    refine ⟨hl, hl, ?_⟩
    obtain ⟨h1, h2⟩ := checked_ok k (votesF k l 0)
    unfold payE payI
    generalize takeE k (votesF k l 0) = e at h1 h2 ⊢
    generalize takeI k (votesF k l 0) = x at h1 h2 ⊢
    generalize votesF k l 0 = v at h1 h2 ⊢
    by_cases h : e = 0
    · obtain ⟨m, far⟩ := h1 h
      unfold layW at far
      rw [if_pos m] at far
      rw [decide_eq_true h, Bool.not_true, cond_false, m, cond_true, decide_eq_true far]
      exact ⟨rfl, rfl, rfl, rfl⟩
    · obtain ⟨m, he⟩ := h2 h
      rw [decide_eq_false h, Bool.not_false, cond_true, decide_eq_true m]
      rintro b rfl b1 rfl
      rcases he with he | he
      · rw [he]; simp
      · rw [he]; simp
end Go.SL.A

/- Functions do what they are held to do. -/
namespace Go.SL.A
open Go Go.SL Go.SL.S
theorem sndv6 : Sound Go.Proofs.Tryd.prog Gv6 := sndv19.add ⟨_, Go.Proofs.Tryd.func6, by kernel_rfl, by kernel_rfl⟩ (by
  intro args ins out h hp
  unfold spv6 at h
  split at h
  · rename_i k n l
    cases h
    exact vcFun_ok (C := Cv6) good sndv19 Meth.none mix Go.Proofs.Tryd.func6 (annv6 k l n) (fun hw => by rw [← vcv6 k l n]; exact purev6 k l n hp)
  · cases h)

end Go.SL.A

/- The seat: closed facts that the rows of all its statements ask. -/
namespace Go.Proofs.YteahjgigkbkcdaaDoor.Seat
open Go Go.SL
set_option maxRecDepth 100000
theorem io0 : Go.Proofs.Tryd.prog.initOrder = String.ofList (([104, 97, 114, 110, 101, 115, 115, 32, 102, 54, 53, 56, 98, 55, 57, 101, 49, 97, 97, 55, 51, 97, 52, 101, 48, 101, 99, 57, 98, 49, 52, 48, 51, 102, 48, 48, 97, 102, 97, 56, 57, 99, 56, 52, 52, 54, 97, 51, 102, 50, 100, 102, 97, 51, 49, 101, 56, 49, 49, 52, 49, 99, 51, 57, 57, 54, 100, 102, 102, 52, 102, 52, 32, 99, 117, 116, 32, 97, 116, 32, 98, 101, 108, 102, 114, 121, 47, 98, 101, 108, 102, 114, 121, 108, 97, 119, 50, 51, 46, 84, 97, 103, 84, 101, 108, 108, 115, 32, 98, 101, 108, 102, 114, 121, 47, 98, 101, 108, 102, 114, 121, 108, 97, 119, 50, 51, 46, 84, 97, 103, 70, 114, 101, 101, 32, 98, 101, 108, 102, 114, 121, 47, 98, 101, 108, 102, 114, 121, 108, 97, 119, 50, 52, 46, 70, 105, 110, 100, 67, 97, 114, 114, 105, 101, 115, 32, 98, 101, 108, 102, 114, 121, 47, 98, 101, 108, 102, 114, 121, 108, 97, 119, 50, 52, 46, 70, 105, 110, 100, 67, 104, 101, 99, 107, 101, 100, 32, 98, 101, 108, 102, 114, 121, 47, 98, 101, 108, 102, 114, 121, 108, 97, 119, 50, 52, 46, 70, 105, 110, 100, 84, 119, 105, 99, 101, 32, 98, 101, 108, 102, 114, 121, 47, 98, 101, 108, 102, 114, 121, 108, 97, 119, 50, 52, 46, 70, 105, 110, 100, 83, 101, 97, 114, 99, 104, 101, 115, 32, 98, 101, 108, 102, 114, 121, 47, 98, 101, 108, 102, 114, 121, 108, 97, 119, 50, 52, 46, 70, 105, 110, 100, 87, 97, 118, 101, 115, 32, 98, 101, 108, 102, 114, 121, 47, 98, 101, 108, 102, 114, 121, 108, 97, 119, 50, 51, 46, 84, 97, 103, 87, 105, 116, 104, 105, 110, 32, 98, 101, 108, 102, 114, 121, 47, 98, 101, 108, 102, 114, 121, 108, 97, 119, 50, 52, 46, 70, 105, 110, 100, 83, 97, 109, 112, 108, 101, 115] : List Nat).map Char.ofNat) := by kernel_rfl
theorem io : Go.Proofs.Tryd.prog.initOrder.toList = ([104, 97, 114, 110, 101, 115, 115, 32, 102, 54, 53, 56, 98, 55, 57, 101, 49, 97, 97, 55, 51, 97, 52, 101, 48, 101, 99, 57, 98, 49, 52, 48, 51, 102, 48, 48, 97, 102, 97, 56, 57, 99, 56, 52, 52, 54, 97, 51, 102, 50, 100, 102, 97, 51, 49, 101, 56, 49, 49, 52, 49, 99, 51, 57, 57, 54, 100, 102, 102, 52, 102, 52, 32, 99, 117, 116, 32, 97, 116, 32, 98, 101, 108, 102, 114, 121, 47, 98, 101, 108, 102, 114, 121, 108, 97, 119, 50, 51, 46, 84, 97, 103, 84, 101, 108, 108, 115, 32, 98, 101, 108, 102, 114, 121, 47, 98, 101, 108, 102, 114, 121, 108, 97, 119, 50, 51, 46, 84, 97, 103, 70, 114, 101, 101, 32, 98, 101, 108, 102, 114, 121, 47, 98, 101, 108, 102, 114, 121, 108, 97, 119, 50, 52, 46, 70, 105, 110, 100, 67, 97, 114, 114, 105, 101, 115, 32, 98, 101, 108, 102, 114, 121, 47, 98, 101, 108, 102, 114, 121, 108, 97, 119, 50, 52, 46, 70, 105, 110, 100, 67, 104, 101, 99, 107, 101, 100, 32, 98, 101, 108, 102, 114, 121, 47, 98, 101, 108, 102, 114, 121, 108, 97, 119, 50, 52, 46, 70, 105, 110, 100, 84, 119, 105, 99, 101, 32, 98, 101, 108, 102, 114, 121, 47, 98, 101, 108, 102, 114, 121, 108, 97, 119, 50, 52, 46, 70, 105, 110, 100, 83, 101, 97, 114, 99, 104, 101, 115, 32, 98, 101, 108, 102, 114, 121, 47, 98, 101, 108, 102, 114, 121, 108, 97, 119, 50, 52, 46, 70, 105, 110, 100, 87, 97, 118, 101, 115, 32, 98, 101, 108, 102, 114, 121, 47, 98, 101, 108, 102, 114, 121, 108, 97, 119, 50, 51, 46, 84, 97, 103, 87, 105, 116, 104, 105, 110, 32, 98, 101, 108, 102, 114, 121, 47, 98, 101, 108, 102, 114, 121, 108, 97, 119, 50, 52, 46, 70, 105, 110, 100, 83, 97, 109, 112, 108, 101, 115] : List Nat).map Char.ofNat := by
  rw [io0]; exact String.toList_ofList
theorem hd : ∃ rest, behindMainWord (wordsSigns Go.Proofs.Tryd.prog.initOrder.toList) = cutW :: rest := by
  rw [io]
  exact ⟨(behindMainWord (wordsSigns (([104, 97, 114, 110, 101, 115, 115, 32, 102, 54, 53, 56, 98, 55, 57, 101, 49, 97, 97, 55, 51, 97, 52, 101, 48, 101, 99, 57, 98, 49, 52, 48, 51, 102, 48, 48, 97, 102, 97, 56, 57, 99, 56, 52, 52, 54, 97, 51, 102, 50, 100, 102, 97, 51, 49, 101, 56, 49, 49, 52, 49, 99, 51, 57, 57, 54, 100, 102, 102, 52, 102, 52, 32, 99, 117, 116, 32, 97, 116, 32, 98, 101, 108, 102, 114, 121, 47, 98, 101, 108, 102, 114, 121, 108, 97, 119, 50, 51, 46, 84, 97, 103, 84, 101, 108, 108, 115, 32, 98, 101, 108, 102, 114, 121, 47, 98, 101, 108, 102, 114, 121, 108, 97, 119, 50, 51, 46, 84, 97, 103, 70, 114, 101, 101, 32, 98, 101, 108, 102, 114, 121, 47, 98, 101, 108, 102, 114, 121, 108, 97, 119, 50, 52, 46, 70, 105, 110, 100, 67, 97, 114, 114, 105, 101, 115, 32, 98, 101, 108, 102, 114, 121, 47, 98, 101, 108, 102, 114, 121, 108, 97, 119, 50, 52, 46, 70, 105, 110, 100, 67, 104, 101, 99, 107, 101, 100, 32, 98, 101, 108, 102, 114, 121, 47, 98, 101, 108, 102, 114, 121, 108, 97, 119, 50, 52, 46, 70, 105, 110, 100, 84, 119, 105, 99, 101, 32, 98, 101, 108, 102, 114, 121, 47, 98, 101, 108, 102, 114, 121, 108, 97, 119, 50, 52, 46, 70, 105, 110, 100, 83, 101, 97, 114, 99, 104, 101, 115, 32, 98, 101, 108, 102, 114, 121, 47, 98, 101, 108, 102, 114, 121, 108, 97, 119, 50, 52, 46, 70, 105, 110, 100, 87, 97, 118, 101, 115, 32, 98, 101, 108, 102, 114, 121, 47, 98, 101, 108, 102, 114, 121, 108, 97, 119, 50, 51, 46, 84, 97, 103, 87, 105, 116, 104, 105, 110, 32, 98, 101, 108, 102, 114, 121, 47, 98, 101, 108, 102, 114, 121, 108, 97, 119, 50, 52, 46, 70, 105, 110, 100, 83, 97, 109, 112, 108, 101, 115] : List Nat).map Char.ofNat))).tail, by kernel_rfl⟩
theorem later : Go.Proofs.Tryd.prog.laysLater = false := by kernel_rfl
theorem reflects : Go.Proofs.Tryd.prog.bearsReflect = false := by kernel_rfl
theorem door : Go.Proofs.Tryd.prog.doorFits [] = true := by kernel_rfl
theorem mayEnter : Go.Proofs.Tryd.prog.mayEnter = true := let ⟨_, h⟩ := hd; mayEnter_cut h later reflects door
theorem lifts : Go.Proofs.Tryd.prog.liftsFinal = false := let ⟨_, h⟩ := hd; lifts_cut h
theorem made : Go.Proofs.Tryd.prog.make = some .cut := let ⟨_, h⟩ := hd; make_cut h
theorem laidOut : laidOutB Go.Proofs.Tryd.prog = true := by kernel_rfl
theorem mapsRowed : mapsRowed Go.Proofs.Tryd.prog = true := by kernel_rfl
theorem stops : (Go.Proofs.Tryd.prog.stops == []) = true := by kernel_rfl
theorem knobs : (Go.Proofs.Tryd.prog.stopKnobs == []) = true := by kernel_rfl
theorem heard : Go.Proofs.Tryd.prog.stopsHeard = true := by kernel_rfl
theorem own : ownKnob Go.Proofs.Tryd.prog.godebug = none := by kernel_rfl
theorem kids : Kids Go.Proofs.Tryd.prog (· < Go.Proofs.Tryd.prog.types.size) := kids_rows laidOut mapsRowed
theorem slicesFull : ∀ t e, t < Go.Proofs.Tryd.prog.types.size → Go.Proofs.Tryd.prog.underlying t = some (.slice e) → 0 < Go.Proofs.Tryd.prog.cellsOf e := slices_full_of Go.Proofs.Tryd.prog (by kernel_rfl)
end Go.Proofs.YteahjgigkbkcdaaDoor.Seat

/- What the package-level table holds, and a world in which it does. -/
namespace Go.Proofs.YteahjgigkbkcdaaDoor.Seat
open Go Go.SL Go.SL.S
set_option maxRecDepth 100000
abbrev cells4 : Array Value := #[.int .u64 8317987319222330741, .int .u64 7237128888997146477, .int .u64 7816392313619706465, .int .u64 8387220255154660723]
theorem gname : Go.Proofs.Tryd.prog.globalNamed "belfry/sip.signs" = some 0 := by kernel_rfl
theorem gtype : (Go.Proofs.Tryd.prog.globals[0]?).map (·.type) = some 144 := by kernel_rfl
theorem u124 : Go.Proofs.Tryd.prog.underlying 144 = some (.array 4 105) := by kernel_rfl
theorem u65 : Go.Proofs.Tryd.prog.underlying 105 = some (.int .u64) := by kernel_rfl
theorem c124 : Go.Proofs.Tryd.prog.cellsOf 144 = 4 := by kernel_rfl
theorem c65 : Go.Proofs.Tryd.prog.cellsOf 105 = 1 := by kernel_rfl

theorem four {α β : Type} {f : α → Option β} {a b c d : α} {xs : List β} (h : [a, b, c, d].mapM f = some xs) : ∃ w x y z, f a = some w ∧ f b = some x ∧ f c = some y ∧ f d = some z ∧ xs = [w, x, y, z] := by
  simp only [List.mapM_cons, List.mapM_nil, Option.bind_eq_bind, Option.bind_eq_some_iff, Option.pure_def, Option.some.injEq] at h
  obtain ⟨w, h1, l1, ⟨x, h2, l2, ⟨y, h3, l3, ⟨z, h4, l4, h5, h6⟩, h7⟩, h8⟩, h9⟩ := h
  subst h5 h6 h7 h8 h9
  exact ⟨w, x, y, z, h1, h2, h3, h4, rfl⟩

/-- What the row's condition says of the table. -/
theorem signs_of {W : World} (h : laidMetH Go.Proofs.Tryd.prog [("belfry/sip.signs", Rows.laid_belfry_sip_signs)] W) : W.var? Go.Proofs.Tryd.prog "belfry/sip.signs" = some cells4 := by
  have h : laidMet Go.Proofs.Tryd.prog [("belfry/sip.signs", Rows.laid_belfry_sip_signs)] W := h
  obtain ⟨ps, ⟨g, t, cs, fuel, p, q, hg, ht, hv, htr, -, -⟩, -, -⟩ := h
  obtain rfl : 0 = g := Option.some.inj (gname.symm.trans hg)
  obtain rfl : 144 = t := Option.some.inj (gtype.symm.trans ht)
  rw [hv]
  congr 1
  cases fuel with
  | zero => cases htr
  | succ fuel =>
    simp only [DataW.trod, u124] at htr
    split at htr
    · rename_i hl
      rw [c124] at hl
      rw [Option.map_eq_some_iff] at htr
      obtain ⟨xs, hm, he⟩ := htr
      have hr : List.range 4 = [0, 1, 2, 3] := rfl
      rw [hr] at hm
      obtain ⟨w, x, y, z, h1, h2, h3, h4, rfl⟩ := four hm
      obtain ⟨n1, e1, r1, -⟩ := DataW.trod_int u65 h1
      obtain ⟨n2, e2, r2, -⟩ := DataW.trod_int u65 h2
      obtain ⟨n3, e3, r3, -⟩ := DataW.trod_int u65 h3
      obtain ⟨n4, e4, r4, -⟩ := DataW.trod_int u65 h4
      subst r1 r2 r3 r4
      have he := congrArg Prod.fst he
      have he : (.agg [.lit (.int .u64 n1), .lit (.int .u64 n2), .lit (.int .u64 n3), .lit (.int .u64 n4)] : DataW Unit) = Rows.laid_belfry_sip_signs := he
      unfold Rows.laid_belfry_sip_signs at he
      simp only [DataW.agg.injEq, List.cons.injEq, DataW.lit.injEq, Lit.int.injEq, true_and, and_true] at he
      obtain ⟨rfl, rfl, rfl, rfl⟩ := he
      rw [c65] at e1 e2 e3 e4
      apply Array.toList_inj.1
      match hcs : cs.toList, hl with
      | [a, b, c, d], _ =>
        rw [hcs] at e1 e2 e3 e4
        simp at e1 e2 e3 e4
        rw [e1, e2, e3, e4]
    · cases htr

theorem signs_gl {W : World} (h : laidMetH Go.Proofs.Tryd.prog [("belfry/sip.signs", Rows.laid_belfry_sip_signs)] W) (g : Nat) (a : AV) (hg : GTab.tab g = some a) : ∃ cs T fr, W.heap[g]? = some (.cells cs T fr) ∧ ∀ E', CR E' a.t a.x cs.toList := by
  have hv := signs_of h
  have hg : (bif Nat.beq g 0 then some (⟨.arr 4 (.int .u64), sgL⟩ : AV) else none) = some a := hg
  cases hb : Nat.beq g 0 with
  | false => rw [hb] at hg; cases hg
  | true =>
    rw [hb] at hg
    obtain rfl := Nat.eq_of_beq_eq_true hb
    cases hg
    unfold World.var? at hv
    rw [gname] at hv
    simp only [Option.bind_some] at hv
    split at hv
    · rename_i cs T fr hh
      cases hv
      refine ⟨cells4, T, fr, hh, fun E' => ?_⟩
      simp only [CR]
      refine ⟨rfl, [_], _, rfl, ⟨rfl, by decide, by decide⟩, [_], _, rfl, ⟨rfl, by decide, by decide⟩, [_], _, rfl, ⟨rfl, by decide, by decide⟩, [_], _, rfl, ⟨rfl, by decide, by decide⟩, rfl⟩
    · cases hv

/-- A world that meets the condition. -/
noncomputable def laidWorld (os : Os) : World :=
  let w0 := World.holding Go.Proofs.Tryd.prog os ⟨#[], #[], []⟩
  { w0 with heap := w0.heap.modify 0 fun
      | .cells _ t frozen => .cells cells4 t frozen
      | o => o }
theorem laidWorld_met (os : Os) (args : Array Value) : laidMetH Go.Proofs.Tryd.prog [("belfry/sip.signs", Rows.laid_belfry_sip_signs)] ((laidWorld os).forCall (fun _ _ => 0) ⟨#[], args, []⟩).memory :=
  show laidMet _ _ _ from laidMet_of_run' 4 (by kernel_rfl) (by kernel_rfl)
end Go.Proofs.YteahjgigkbkcdaaDoor.Seat

/- Functions and what they are held to do: bound to their code. -/
namespace Go.SL.A
open Go Go.SL Go.SL.S
set_option maxRecDepth 100000
noncomputable def Cv7 : Ctx := ⟨Go.Proofs.Tryd.prog, D, Gv19, (fun _ _ => none), fun _ => []⟩
def annv7 (_k : List Int) (l : List (Int × List Int × List (List Int))) (c : Int) (_n : Nat) : Nat → St → Option Ann := fun id S => match id with | 0 => some ⟨Nat, [1, 2, 3], [0, 1], fun i => [(8, .v (.int .i64) (i : Int)), (7, .v (.ref .slice) (.slice 2 (.cons (.int .i64) (.last (.cons (.arr 8 (.int .i64)) (.last (.arr 8 (.arr 4 (.int .i64))))))) [] 0 (firstsTo l i).length))], fun i => [(2, some ⟨false, false, (.cons (.int .i64) (.last (.cons (.arr 8 (.int .i64)) (.last (.arr 8 (.arr 4 (.int .i64))))))), firstsTo l i⟩)], fun i => i ≤ l.length, fun i => l.length - i⟩ | 2 => some ⟨Nat, [1, 2, 3, 7, 8], [0, 1, 2], fun j => [(10, .v (.int .i64) (j : Int)), (9, .v .bool (hasF ((S.xs 2 (.cons (.int .i64) (.last (.cons (.arr 8 (.int .i64)) (.last (.arr 8 (.arr 4 (.int .i64)))))))).take j) (l.getD (S.i 8).toNat zeroK).1))], fun _ => [], fun j => j ≤ (S.xs 2 (.cons (.int .i64) (.last (.cons (.arr 8 (.int .i64)) (.last (.arr 8 (.arr 4 (.int .i64)))))))).length, fun j => (S.xs 2 (.cons (.int .i64) (.last (.cons (.arr 8 (.int .i64)) (.last (.arr 8 (.arr 4 (.int .i64)))))))).length - j⟩ | _ => some ⟨Nat, [1, 2, 3, 7], [0, 1, 2], fun i => [(12, .v (.int .i64) (i : Int)), (11, .v (.ref .slice) (.slice 3 (.cons (.int .i64) (.last (.cons (.arr 8 (.int .i64)) (.last (.arr 8 (.arr 4 (.int .i64))))))) [] 0 i))], fun i => [(3, some ⟨false, false, (.cons (.int .i64) (.last (.cons (.arr 8 (.int .i64)) (.last (.arr 8 (.arr 4 (.int .i64))))))), twiceL (S.xs 2 (.cons (.int .i64) (.last (.cons (.arr 8 (.int .i64)) (.last (.arr 8 (.arr 4 (.int .i64)))))))) c.toNat i⟩)], fun i => i ≤ 2 * (S.xs 2 (.cons (.int .i64) (.last (.cons (.arr 8 (.int .i64)) (.last (.arr 8 (.arr 4 (.int .i64)))))))).length, fun i => 2 * (S.xs 2 (.cons (.int .i64) (.last (.cons (.arr 8 (.int .i64)) (.last (.arr 8 (.arr 4 (.int .i64)))))))).length - i⟩
def outv7 (_k : List Int) (l : List (Int × List Int × List (List Int))) (_c : Int) (n : Nat) : COut := ⟨[n = l.length], .v .bool true, [], []⟩
def spv7 : Spec := fun args ins => match args, ins with
  | [⟨.arr 16 (.int .u8), k⟩, ⟨.ref .slice, .slice 0 (.cons (.int .i64) (.last (.cons (.arr 8 (.int .i64)) (.last (.arr 8 (.arr 4 (.int .i64))))))) [] 0 n⟩, ⟨.int .u8, c⟩], [⟨true, false, (.cons (.int .i64) (.last (.cons (.arr 8 (.int .i64)) (.last (.arr 8 (.arr 4 (.int .i64))))))), l⟩] => some (outv7 k l c n)
  | _, _ => none
def Gv7 := addG Gv19 7 spv7
def Pv7 (k : List Int) (l : List (Int × List Int × List (List Int))) (c : Int) (n : Nat) : Prop :=
 ∀ (b:Bool),false=b→∀ (b_1:Bool),(bif b then true else decide (200<(n:Int)))=b_1→(((!b)=true→(!b)=true)∧((!b)=true→(!b)=true)∧(b=false→(!b)=true)∧((!b_1)=true→(!b_1)=true)∧((!b_1)=true→(!b_1)=true)∧(b_1=false→(!b_1)=true))∧bif bif b_1
 then true else decide ((n:Int)=0) then true=true∧l=l∧true=true else ∃ (x:Nat),((0=0∧n=n∧c=c∧0=0∧List.length (firstsTo l x)=0∧0=(x:Int)∧l=l∧true=true∧k=k∧false=false∧firstsTo l x=[])∧x≤List.length l)∧∀ (x:Nat),x≤List.length l→(IntKind.min
 .i64≤(x:Int)∧(x:Int)≤IntKind.max .i64∧∀ (y:Int × List Int × List (List Int)),List.Mem y (firstsTo l x)→IntKind.min .i64≤y.1∧y.1≤IntKind.max .i64∧List.length y.2.1=8∧(∀ (y_1:Int),List.Mem y_1 y.2.1→IntKind.min .i64≤y_1∧y_1≤IntKind.max
 .i64)∧List.length y.2.2=8∧∀ (y_1:List Int),List.Mem y_1 y.2.2→List.length y_1=4∧∀ (y:Int),List.Mem y y_1→IntKind.min .i64≤y∧y≤IntKind.max .i64)→bif decide ((x:Int)<(n:Int)) then ∃ (x_1:Nat),((0=0∧n=n∧c=c∧0=0∧0=0∧List.length (firstsTo
 l x)=List.length (firstsTo l x)∧(x:Int)=(x:Int)∧false=hasF (List.take x_1 (firstsTo l x)) (List.getD l (x:Int).toNat zeroK).1∧0=(x_1:Int)∧l=l∧true=true∧k=k∧false=false∧firstsTo l x=firstsTo l x∧false=false)∧x_1≤List.length (firstsTo
 l x))∧∀ (x_2:Nat),x_2≤List.length (firstsTo l x)→IntKind.min .i64≤(x_2:Int)∧(x_2:Int)≤IntKind.max .i64→bif decide ((x_2:Int)<(↑ (List.length (firstsTo l x)):Int)) then ∀ (b:Bool),hasF (List.take x_2 (firstsTo l x)) (List.getD l (x:Int).toNat
 zeroK).1=b→(((!b)=true→(!b)=true∧(!b)=true∧0≤(x_2:Int)∧(x_2:Int)<(↑ (List.length (firstsTo l x)):Int))∧((!b)=true→(!b)=true)∧((!b)=true→(!b)=true∧0+(x_2:Int).toNat<List.length (firstsTo l x))∧((!b)=true→(!b)=true∧(!b)=true∧0≤(x:Int)∧(x:Int)<(n:Int))∧((!b)=true→(!b)=true)∧((!b)=true→(!b)=true∧0+(x:Int).toNat<List.length
 l)∧((!b)=true→(!b)=true∧(!b)=true)∧(b=false→(!b)=true))∧∃ (y:Nat),(0=0∧n=n∧c=c∧0=0∧0=0∧List.length (firstsTo l x)=List.length (firstsTo l x)∧(x:Int)=(x:Int)∧(bif b then true else decide ((List.getD (firstsTo l x) (0+(x_2:Int).toNat)
 ((0:Int),List.replicate 8 (0:Int),List.replicate 8 (List.replicate 4 (0:Int)))).1=(List.getD l (0+(x:Int).toNat) ((0:Int),List.replicate 8 (0:Int),List.replicate 8 (List.replicate 4 (0:Int)))).1))=hasF (List.take y (firstsTo l x)) (List.getD
 l (x:Int).toNat zeroK).1∧IntKind.wrap .i64 ((x_2:Int)+1)=(y:Int)∧l=l∧true=true∧k=k∧false=false∧firstsTo l x=firstsTo l x∧false=false)∧y≤List.length (firstsTo l x)∧List.length (firstsTo l x) - y<List.length (firstsTo l x) - x_2 else
 bif !hasF (List.take x_2 (firstsTo l x)) (List.getD l (x:Int).toNat zeroK).1 then ((0≤(x:Int)∧(x:Int)<(n:Int))∧0+(x:Int).toNat<List.length l∧(1:Nat)≤1∧0+List.length (firstsTo l x)=List.length (firstsTo l x)∧(List.length (firstsTo l
 x)+List.length (seg (List.getD l (0+(x:Int).toNat) ((0:Int),List.replicate 8 (0:Int),List.replicate 8 (List.replicate 4 (0:Int))) :: List.replicate (nat_lit 0) ((0:Int),List.replicate 8 (0:Int),List.replicate 8 (List.replicate 4 (0:Int))))
 (0:Nat) (1:Nat))) * 328≤70368744177664)∧∃ (y:Nat),(0=0∧n=n∧c=c∧0=0∧0=0∧List.length (firstsTo l x)+List.length (seg (List.getD l (0+(x:Int).toNat) ((0:Int),List.replicate 8 (0:Int),List.replicate 8 (List.replicate 4 (0:Int))) :: List.replicate
 (nat_lit 0) ((0:Int),List.replicate 8 (0:Int),List.replicate 8 (List.replicate 4 (0:Int)))) (0:Nat) (1:Nat))=List.length (firstsTo l y)∧IntKind.wrap .i64 ((x:Int)+1)=(y:Int)∧l=l∧true=true∧k=k∧false=false∧List.append (List.drop (0:Nat)
 (firstsTo l x)) (seg (List.getD l (0+(x:Int).toNat) ((0:Int),List.replicate 8 (0:Int),List.replicate 8 (List.replicate 4 (0:Int))) :: List.replicate (nat_lit 0) ((0:Int),List.replicate 8 (0:Int),List.replicate 8 (List.replicate 4 (0:Int))))
 (0:Nat) (1:Nat))=firstsTo l y∧false=false)∧y≤List.length l∧List.length l - y<List.length l - x else ∃ (y:Nat),(0=0∧n=n∧c=c∧0=0∧0=0∧List.length (firstsTo l x)=List.length (firstsTo l y)∧IntKind.wrap .i64 ((x:Int)+1)=(y:Int)∧l=l∧true=true∧k=k∧false=false∧firstsTo
 l x=firstsTo l y∧false=false)∧y≤List.length l∧List.length l - y<List.length l - x else ∃ (x_1:Nat),((0=0∧n=n∧c=c∧0=0∧0=0∧List.length (firstsTo l x)=List.length (firstsTo l x)∧x_1=0∧0=(x_1:Int)∧l=l∧true=true∧k=k∧false=false∧firstsTo
 l x=firstsTo l x∧false=false∧twiceL (firstsTo l x) c.toNat x_1=[])∧x_1≤2 * List.length (firstsTo l x))∧∀ (x_2:Nat),x_2≤2 * List.length (firstsTo l x)→(IntKind.min .i64≤(x_2:Int)∧(x_2:Int)≤IntKind.max .i64∧∀ (y:Int × List Int × List
 (List Int)),List.Mem y (twiceL (firstsTo l x) c.toNat x_2)→IntKind.min .i64≤y.1∧y.1≤IntKind.max .i64∧List.length y.2.1=8∧(∀ (y_1:Int),List.Mem y_1 y.2.1→IntKind.min .i64≤y_1∧y_1≤IntKind.max .i64)∧List.length y.2.2=8∧∀ (y_1:List Int),List.Mem
 y_1 y.2.2→List.length y_1=4∧∀ (y:Int),List.Mem y y_1→IntKind.min .i64≤y∧y≤IntKind.max .i64)→bif decide ((x_2:Int)<IntKind.wrap .i64 ((2:Int) * (↑ (List.length (firstsTo l x)):Int))) then ((↑ (List.length (firstsTo l x)):Int)≠0∧(0≤Int.tmod
 (IntKind.wrap .i64 ((x_2:Int)+IntKind.wrap .i64 c)) (↑ (List.length (firstsTo l x)):Int)∧Int.tmod (IntKind.wrap .i64 ((x_2:Int)+IntKind.wrap .i64 c)) (↑ (List.length (firstsTo l x)):Int)<(↑ (List.length (firstsTo l x)):Int))∧0+(Int.tmod
 (IntKind.wrap .i64 ((x_2:Int)+IntKind.wrap .i64 c)) (↑ (List.length (firstsTo l x)):Int)).toNat<List.length (firstsTo l x)∧(1:Nat)≤1∧0+x_2=List.length (twiceL (firstsTo l x) c.toNat x_2)∧(x_2+List.length (seg (List.getD (firstsTo l
 x) (0+(Int.tmod (IntKind.wrap .i64 ((x_2:Int)+IntKind.wrap .i64 c)) (↑ (List.length (firstsTo l x)):Int)).toNat) ((0:Int),List.replicate 8 (0:Int),List.replicate 8 (List.replicate 4 (0:Int))) :: List.replicate (nat_lit 0) ((0:Int),List.replicate
 8 (0:Int),List.replicate 8 (List.replicate 4 (0:Int)))) (0:Nat) (1:Nat))) * 328≤70368744177664)∧∃ (y:Nat),(0=0∧n=n∧c=c∧0=0∧0=0∧List.length (firstsTo l x)=List.length (firstsTo l x)∧0=0∧x_2+List.length (seg (List.getD (firstsTo l x)
 (0+(Int.tmod (IntKind.wrap .i64 ((x_2:Int)+IntKind.wrap .i64 c)) (↑ (List.length (firstsTo l x)):Int)).toNat) ((0:Int),List.replicate 8 (0:Int),List.replicate 8 (List.replicate 4 (0:Int))) :: List.replicate (nat_lit 0) ((0:Int),List.replicate
 8 (0:Int),List.replicate 8 (List.replicate 4 (0:Int)))) (0:Nat) (1:Nat))=y∧IntKind.wrap .i64 ((x_2:Int)+1)=(y:Int)∧l=l∧true=true∧k=k∧false=false∧firstsTo l x=firstsTo l x∧false=false∧List.append (List.drop (0:Nat) (twiceL (firstsTo
 l x) c.toNat x_2)) (seg (List.getD (firstsTo l x) (0+(Int.tmod (IntKind.wrap .i64 ((x_2:Int)+IntKind.wrap .i64 c)) (↑ (List.length (firstsTo l x)):Int)).toNat) ((0:Int),List.replicate 8 (0:Int),List.replicate 8 (List.replicate 4 (0:Int)))
 :: List.replicate (nat_lit 0) ((0:Int),List.replicate 8 (0:Int),List.replicate 8 (List.replicate 4 (0:Int)))) (0:Nat) (1:Nat))=twiceL (firstsTo l x) c.toNat y∧false=false)∧y≤2 * List.length (firstsTo l x)∧(2:Nat) * List.length (firstsTo
 l x) - y<2 * List.length (firstsTo l x) - x_2 else ((x_2=List.length (twiceL (firstsTo l x) c.toNat x_2)∧x_2≤1000000)∧n=List.length l∧n≤1000000)∧Ty.eqb (Ty.arr (127:Nat) (Ty.int .i64)) (votesF k (twiceL (firstsTo l x) c.toNat x_2) (0:Int))
 (votesF k l (0:Int))=true∧l=l∧true=true
theorem vcv7 (k : List Int) (l : List (Int × List Int × List (List Int))) (c : Int) (n : Nat) : Pv7 k l c n = vcFun Cv7 (annv7 k l c n) Go.Proofs.Tryd.f7 [⟨.arr 16 (.int .u8), k⟩, ⟨.ref .slice, .slice 0 (.cons (.int .i64) (.last (.cons (.arr 8 (.int .i64)) (.last (.arr 8 (.arr 4 (.int .i64))))))) [] 0 n⟩, ⟨.int .u8, c⟩] [⟨true, false, (.cons (.int .i64) (.last (.cons (.arr 8 (.int .i64)) (.last (.arr 8 (.arr 4 (.int .i64))))))), l⟩] (outv7 k l c n) := by kernel_rfl

end Go.SL.A

/- Packets that come twice: the code as a plain condition holds. -/
namespace Go.SL.A
open Go Go.SL Go.SL.S
set_option maxRecDepth 100000

theorem hwv7 {k : List Int} {l : List (Int × List Int × List (List Int))} {c : Int} {n : Nat} (hw : Go.SL.allP (List.flatMap (fun a : AV => a.t.wf a.x) [⟨.arr 16 (.int .u8), k⟩, ⟨.ref .slice, .slice 0 (.cons (.int .i64) (.last (.cons (.arr 8 (.int .i64)) (.last (.arr 8 (.arr 4 (.int .i64))))))) [] 0 n⟩, ⟨.int .u8, c⟩] ++ List.flatMap Blk.wf [⟨true, false, (.cons (.int .i64) (.last (.cons (.arr 8 (.int .i64)) (.last (.arr 8 (.arr 4 (.int .i64))))))), l⟩])) : 0 ≤ c ∧ c ≤ 255 := by
  simp only [List.flatMap_cons, List.flatMap_nil, Ty.wf, Blk.wf, List.append_nil, List.cons_append, List.nil_append, Go.SL.allP] at hw
  have e3 : IntKind.u8.min = 0 := by decide
  have e4 : IntKind.u8.max = 255 := by decide
  have h := hw.2.2
  rw [e3, e4] at h
  exact ⟨h.1, h.2.1⟩
theorem has_take {l : List PKQ} {j : Nat} (h : j < l.length) (f : Int) : hasF (l.take (j + 1)) f = (hasF (l.take j) f || decide ((l.getD j zeroK).1 = f)) := by
  rw [take_get h]; unfold hasF; rw [List.any_append]; simp
theorem firsts_pos {l : List PKQ} (h : 0 < l.length) : 0 < (firstsTo l l.length).length := by
  have F := firsts_all l
  rcases Nat.eq_zero_or_pos (firstsTo l l.length).length with e | e
  · have e := List.length_eq_zero_iff.1 e
    have := F.has (l.getD 0 zeroK).1
    rw [e] at this
    have h2 : hasF l (l.getD 0 zeroK).1 = true := has_iff.2 ⟨_, getD_mem h, rfl⟩
    rw [h2] at this
    cases this
  · exact e
theorem twice_step (o : List PKQ) (t i : Nat) : twiceL o t (i + 1) = twiceL o t i ++ [o.getD ((i + t) % o.length) zeroK] := by
  unfold twiceL; rw [List.range_succ, List.map_append]; rfl
theorem twice_len (o : List PKQ) (t i : Nat) : (twiceL o t i).length = i := by simp [twiceL]
theorem purev7 (k : List Int) (l : List (Int × List Int × List (List Int))) (c : Int) (n : Nat) (hp : n = l.length) (hc : 0 ≤ c ∧ c ≤ 255) : Pv7 k l c n := by
  subst hp
  unfold Pv7
  rintro b rfl b1 rfl
  refine ⟨by simp, ?_⟩
  rw [cond_false]
  by_cases c1 : (200 : Int) < (l.length : Int)
  · rw [decide_eq_true c1, cond_true, cond_true]; exact ⟨rfl, rfl, rfl⟩
  rw [decide_eq_false c1, cond_false]
  by_cases c2 : (l.length : Int) = 0
  · rw [decide_eq_true c2, cond_true]; exact ⟨rfl, rfl, rfl⟩
  rw [decide_eq_false c2, cond_false]
  simp only [eq_self, true_and, and_true, Int.toNat_natCast, Nat.zero_add]
  refine ⟨0, ⟨⟨rfl, rfl, rfl⟩, Nat.zero_le _⟩, fun i hi hw => ?_⟩
  clear hw
  have ez : ∀ (m : List PKQ) (j : Nat), List.getD m j (0, List.replicate 8 0, List.replicate 8 (List.replicate 4 0)) = m.getD j zeroK := fun _ _ => rfl
  simp only [ez]
  by_cases h : i < l.length
  · rw [decide_eq_true (show (i : Int) < (l.length : Int) by omega), cond_true]
    have e0 : firstsTo l (i + 1) = if hasF (firstsTo l i) (l.getD i zeroK).1 then firstsTo l i else firstsTo l i ++ [l.getD i zeroK] := firstsTo.eq_2 l i
    have hfl := firsts_len l i
    have hil : (0 : Int) ≤ (i : Int) ∧ (i : Int) < (l.length : Int) := by omega
    generalize firstsTo l i = m at *
    generalize hpe : l.getD i zeroK = p at *
    refine ⟨0, ⟨⟨rfl, rfl⟩, Nat.zero_le _⟩, fun j hj hw => ?_⟩
    clear hw
    by_cases h2 : j < m.length
    · rw [decide_eq_true (show (j : Int) < (m.length : Int) by omega), cond_true]
      have hjl : (0 : Int) ≤ (j : Int) ∧ (j : Int) < (m.length : Int) := by omega
      rintro b rfl
      refine ⟨by simp [hjl, hil, h, h2], j + 1, ⟨?_, step_i (by omega)⟩, by omega, by omega⟩
      rw [has_take h2]
      cases hasF (m.take j) p.1 <;> rfl
    · have ej : j = m.length := by omega
      rw [decide_eq_false (by omega), cond_false, ej, List.take_length]
      cases hh : hasF m p.1 with
      | true =>
        rw [hh, if_pos rfl] at e0
        rw [Bool.not_true, cond_false]
        exact ⟨i + 1, ⟨by rw [e0], step_i (by omega), by rw [e0]⟩, by omega, by omega⟩
      | false =>
        rw [hh, if_neg (by decide)] at e0
        rw [Bool.not_false, cond_true]
        have es : seg (p :: List.replicate 0 (0, List.replicate 8 0, List.replicate 8 (List.replicate 4 0))) 0 1 = [p] := rfl
        rw [es]
        refine ⟨⟨hil, h, by decide, ?_⟩, i + 1, ⟨?_, step_i (by omega), ?_⟩, by omega, by omega⟩
        · rw [List.length_singleton]; omega
        · rw [e0, List.length_append]
        · rw [e0]; rfl
  · have ei : i = l.length := by omega
    rw [decide_eq_false (by omega), cond_false, ei]
    have hpos := firsts_pos (l := l) (by omega)
    have hfl := firsts_len l l.length
    have tw := votes_twice k (l := l) (fun e => by rw [e] at c2; exact c2 rfl) c.toNat
    generalize firstsTo l l.length = o at *
    refine ⟨0, ⟨⟨rfl, rfl, rfl⟩, Nat.zero_le _⟩, fun j hj hw => ?_⟩
    clear hw
    have e2 : IntKind.i64.wrap (2 * (o.length : Int)) = 2 * (o.length : Int) := w64 (by omega) (by omega)
    have ec : IntKind.i64.wrap c = c := w64 (by omega) (by omega)
    have ejc : IntKind.i64.wrap ((j : Int) + c) = (j : Int) + c := w64 (by omega) (by omega)
    rw [e2, ec, ejc]
    have em : Int.tmod ((j : Int) + c) (o.length : Int) = (((j + c.toNat) % o.length : Nat) : Int) := by
      rw [Int.tmod_eq_emod_of_nonneg (by omega), Int.natCast_emod]
      congr 1
      omega
    rw [em]
    have hmod : (j + c.toNat) % o.length < o.length := Nat.mod_lt _ hpos
    by_cases h3 : j < 2 * o.length
    · rw [decide_eq_true (show (j : Int) < 2 * (o.length : Int) by omega), cond_true]
      simp only [Int.toNat_natCast]
      refine ⟨⟨by omega, ⟨by omega, by omega⟩, hmod, by decide, by rw [twice_len], ?_⟩, j + 1, ⟨?_, step_i (by omega), ?_⟩, by omega, by omega⟩
      · show (j + 1) * 328 ≤ _; omega
      · rfl
      · rw [twice_step]; rfl
    · have ej : j = 2 * o.length := by omega
      rw [decide_eq_false (by omega), cond_false, ej, tw, twice_len]
      refine ⟨⟨⟨rfl, by omega⟩, by omega⟩, ?_⟩
      rw [eqbA (votes_len k l 0) (votes_len k l 0)]
      exact decide_eq_true rfl
end Go.SL.A

/- Functions do what they are held to do. -/
namespace Go.SL.A
open Go Go.SL Go.SL.S
theorem sndv7 : Sound Go.Proofs.Tryd.prog Gv7 := sndv19.add ⟨_, Go.Proofs.Tryd.func7, by kernel_rfl, by kernel_rfl⟩ (by
  intro args ins out h hp
  unfold spv7 at h
  split at h
  · rename_i k n c l
    cases h
    exact vcFun_ok (C := Cv7) good sndv19 Meth.none mix Go.Proofs.Tryd.func7 (annv7 k l c n) (fun hw => by rw [← vcv7 k l c n]; exact purev7 k l c n hp (hwv7 hw))
  · cases h)

end Go.SL.A
