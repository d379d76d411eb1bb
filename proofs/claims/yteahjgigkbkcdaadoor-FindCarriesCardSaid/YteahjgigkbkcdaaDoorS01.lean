/- Part 1 of what the statements of this seat need: a logic of states for the code of the model, the functions that they reach, and what these are held to do: no condition. -/
import Derived.Calls
import Derived.Orders
import Derived.Below
import Derived.KernelRfl
import Derived.CheckFast
import Derived.Laws.Sem
import Derived.Laws.Rows
import GoSem.Dispatch
import Derived.ChangeKeysEq
import Derived.Laws.MakeOwn
import Derived.Laws.AppendOwn
import Derived.Laws.BytesString
import Derived.Laws.IdiomStrings
import Derived.Laws.BytesArg

/- S-logic, part 1: abstract data, the evaluation of operations, verification conditions. -/
namespace Go.SL
open Go

/-- The kinds of references (what the zero value is). -/
inductive RK | ptr | slice | func | iface | map
  deriving DecidableEq

/-- The shape of data. A struct is a chain of 'cons' that ends in 'last'. -/
inductive Ty
  | int (k : IntKind) | bool | str | ref (k : RK) | unit
  | arr (n : Nat) (t : Ty) | last (a : Ty) | cons (a r : Ty)
  deriving DecidableEq

/-- References, closures, and what an interface holds; blocks are named by number. -/
inductive Ref
  | nilptr | nilslice | nilFunc | nilIface | nilmap
  | ptr (b : Nat) (t : Ty) (p : List Nat)
  | sub (b : Nat) (t : Ty) (p : List Nat) (off n : Nat)
  | slice (b : Nat) (t : Ty) (p : List Nat) (off len : Nat)
  | func (fn : Fn) (first captured : List Ref)
  | iface (T : TypeId) (v : Ref)
  | map (b : Nat)
  | int (k : IntKind) (x : Int) | bool (b : Bool) | str (s : ByteArray)
  | agg (l : List Ref)

def RK.nil : RK → Ref
  | .ptr => .nilptr | .slice => .nilslice | .func => .nilFunc | .iface => .nilIface | .map => .nilmap

@[reducible] def Ty.I : Ty → Type
  | .int _ => Int | .bool => Bool | .str => ByteArray | .ref _ => Ref | .unit => Unit
  | .arr _ t => List t.I | .last a => a.I | .cons a r => a.I × r.I

def Ty.dflt : (t : Ty) → t.I
  | .int _ => (0 : Int) | .bool => false | .str => ByteArray.empty | .ref k => k.nil | .unit => ()
  | .arr n t => List.replicate n t.dflt | .last a => a.dflt | .cons a r => (a.dflt, r.dflt)

def Ty.size : Ty → Nat
  | .int _ => 1 | .bool => 1 | .str => 1 | .ref _ => 1 | .unit => 0
  | .arr n t => n * t.size | .last a => a.size | .cons a r => a.size + r.size

def Ty.agg : Ty → Bool
  | .unit | .arr .. | .last _ | .cons .. => true
  | _ => false

structure AV where
  t : Ty
  x : t.I

def AV.as (a : AV) (t : Ty) : Option t.I := if h : a.t = t then some (h ▸ a.x) else none

/-- What a slot holds. -/
inductive SV
  | any
  | v (t : Ty) (x : t.I)
  | opt (c : Bool) (t : Ty) (x : t.I)
  | tup (l : List AV)
  | gel (g k : Nat)

/-- A block: may it be written; is it one variable (a row of one); its elements' shape; these. -/
structure Blk where
  ro : Bool
  one : Bool
  t : Ty
  xs : List t.I

/-- Is a block a map's entries (read only and one variable: no row of cells is told so). -/
def Blk.isMap (b : Blk) : Bool := match b.one with
  | true => b.ro
  | false => false

/-! ### Paths -/

/-- A struct's field. -/
def Ty.fld : (t : Ty) → t.I → Nat → Option AV
  | .last a, x, 0 => some ⟨a, x⟩
  | .cons a _, x, 0 => some ⟨a, x.1⟩
  | .cons _ r, x, k + 1 => r.fld x.2 k
  | _, _, _ => none

def Ty.setf : (t : Ty) → t.I → Nat → AV → Option t.I
  | .last a, _, 0, y => y.as a
  | .cons a _, x, 0, y => (y.as a).map fun z => (z, x.2)
  | .cons _ r, x, k + 1, y => (r.setf x.2 k y).map fun z => (x.1, z)
  | _, _, _, _ => none

/-- What lies at a path. -/
def rdp : List Nat → AV → Option AV
  | [], a => some a
  | i :: p, ⟨.arr _ t, l⟩ => rdp p ⟨t, List.getD l i t.dflt⟩
  | i :: p, ⟨t, x⟩ => (t.fld x i).bind (rdp p)

/-- Data with something else at a path. -/
def wrp : List Nat → (a : AV) → AV → Option a.t.I
  | [], a, y => y.as a.t
  | i :: p, ⟨.arr _ t, l⟩, y => (wrp p ⟨t, List.getD l i t.dflt⟩ y).map fun z => List.set l i z
  | i :: p, ⟨t, x⟩, y => (t.fld x i).bind fun a => (wrp p a y).bind fun z => t.setf x i ⟨a.t, z⟩

def Ty.fty : Ty → Nat → Option Ty
  | .last a, 0 => some a
  | .cons a _, 0 => some a
  | .cons _ r, k + 1 => r.fty k
  | _, _ => none

def Ty.foff : Ty → Nat → Nat
  | .cons a r, k + 1 => a.size + r.foff k
  | _, _ => 0

/-- The type at a path. -/
def subt : List Nat → Ty → Option Ty
  | [], t => some t
  | _ :: p, .arr _ t => subt p t
  | i :: p, t => (t.fty i).bind (subt p)

/-- Each index of a path lies in its array. -/
def okp : List Nat → Ty → List Prop
  | [], _ => []
  | i :: p, .arr n t => (i < n) :: okp p t
  | i :: p, t => match t.fty i with
    | some a => okp p a
    | none => [False]

/-- The offset of a path. -/
def offp : List Nat → Ty → Nat
  | [], _ => 0
  | i :: p, .arr _ t => i * t.size + offp p t
  | i :: p, t => t.foff i + match t.fty i with
    | some a => offp p a
    | none => 0

/-- The size of the elements of what lies at a path. -/
def esz (p : List Nat) (t : Ty) : Nat := match subt p (.arr 0 t) with
  | some (.arr _ u) => u.size
  | _ => 0

/-! ### Renaming of blocks -/

mutual
def Ref.ids : Ref → List Nat
  | .ptr b _ _ => [b]
  | .sub b _ _ _ _ => [b]
  | .slice b _ _ _ _ => [b]
  | .map b => [b]
  | .func _ f c => Ref.idsL f ++ Ref.idsL c
  | .iface _ v => v.ids
  | .agg l => Ref.idsL l
  | _ => []
def Ref.idsL : List Ref → List Nat
  | [] => []
  | r :: l => r.ids ++ Ref.idsL l
end

mutual
def Ref.ren (f : Nat → Nat) : Ref → Ref
  | .ptr b t p => .ptr (f b) t p
  | .sub b t p o n => .sub (f b) t p o n
  | .slice b t p o n => .slice (f b) t p o n
  | .map b => .map (f b)
  | .func fn a c => .func fn (Ref.renL f a) (Ref.renL f c)
  | .iface T v => .iface T (v.ren f)
  | .agg l => .agg (Ref.renL f l)
  | r => r
def Ref.renL (f : Nat → Nat) : List Ref → List Ref
  | [] => []
  | r :: l => r.ren f :: Ref.renL f l
end

def Ty.noRef : Ty → Bool
  | .ref _ => false
  | .arr _ t => t.noRef
  | .last a => a.noRef
  | .cons a r => a.noRef && r.noRef
  | _ => true

def Ty.ids : (t : Ty) → t.I → List Nat
  | .ref _, x => Ref.ids x
  | .arr _ t, l => match t.noRef with
    | true => []
    | false => List.flatMap (t.ids ·) l
  | .last a, x => a.ids x
  | .cons a r, x => a.ids x.1 ++ r.ids x.2
  | _, _ => []

def Ty.ren (f : Nat → Nat) : (t : Ty) → t.I → t.I
  | .ref _, x => Ref.ren f x
  | .arr _ t, l => match t.noRef with
    | true => l
    | false => List.map (t.ren f ·) l
  | .last a, x => a.ren f x
  | .cons a r, x => (a.ren f x.1, r.ren f x.2)
  | _, x => x

def AV.ids (a : AV) : List Nat := a.t.ids a.x
def AV.ren (f : Nat → Nat) (a : AV) : AV := ⟨a.t, a.t.ren f a.x⟩

def SV.ids : SV → List Nat
  | .any => []
  | .v t x => t.ids x
  | .opt _ t x => t.ids x
  | .tup l => l.flatMap AV.ids
  | .gel _ _ => []

def SV.ren (f : Nat → Nat) : SV → SV
  | .any => .any
  | .v t x => .v t (t.ren f x)
  | .opt c t x => .opt c t (t.ren f x)
  | .tup l => .tup (l.map (AV.ren f))
  | .gel g k => .gel g k

def Blk.ids (b : Blk) : List Nat := match b.t.noRef with
  | true => []
  | false => b.xs.flatMap (b.t.ids ·)
def Blk.ren (f : Nat → Nat) (b : Blk) : Blk := match b.t.noRef with
  | true => b
  | false => ⟨b.ro, b.one, b.t, b.xs.map (b.t.ren f ·)⟩

/-- The blocks that can be come to, in order. -/
def reach (L : Nat → Option Blk) : Nat → List Nat → List Nat → Option (List Nat)
  | 0, _, _ => none
  | _ + 1, [], seen => some seen
  | n + 1, i :: todo, seen => match seen.elem i with
    | true => reach L n todo seen
    | false => (L i).bind fun b => reach L n (todo ++ b.ids) (seen ++ [i])

/-! ### What operations give -/

structure TI where
  ty : TypeId → Option Ty
  /-- a slice type's element type -/
  sl : TypeId → Option TypeId
  bytes : TypeId → Nat
  /-- may values of this aggregate be compared plainly -/
  eqok : TypeId → Bool
  /-- a map type's keys' and values' types -/
  mp : TypeId → Option (TypeId × TypeId)

/-- Package-level variables that never turn, and what they hold. -/
class GTab where
  tab : Nat → Option AV

structure Out where
  pre : List Prop
  v : SV
  upd : List (Nat × Option Blk)

def allP : List Prop → Prop
  | [] => True
  | [p] => p
  | p :: q :: l => p ∧ allP (q :: l)

/-- What a function is held to do: out of its arguments and the blocks that they come to (numbered from 0 on): conditions, result, blocks that change, new blocks. -/
structure COut where
  pre : List Prop
  v : SV
  upd : List (Nat × Option Blk)
  news : List Blk

abbrev Spec := List AV → List Blk → Option COut

/-- Which function a method is, of a type's values in an interface; is the receiver what the pointer points to, of which type. -/
abbrev MethT := TypeId → String → Option (FuncId × Option TypeId)

def inR (k : IntKind) (n : Int) : Bool := decide (k.min ≤ n) && decide (n ≤ k.max)

def iand (k : IntKind) (a b : Int) : Int := k.wrap (BitVec.ofInt k.bits a &&& BitVec.ofInt k.bits b).toNat
def ior (k : IntKind) (a b : Int) : Int := k.wrap (BitVec.ofInt k.bits a ||| BitVec.ofInt k.bits b).toNat
def ixor (k : IntKind) (a b : Int) : Int := k.wrap (BitVec.ofInt k.bits a ^^^ BitVec.ofInt k.bits b).toNat
def iandNot (k : IntKind) (a b : Int) : Int := k.wrap (BitVec.ofInt k.bits a &&& ~~~ BitVec.ofInt k.bits b).toNat
def ishl (k : IntKind) (a b : Int) : Int := k.wrap (a * 2 ^ (min b.toNat k.bits))
def ishr (k : IntKind) (a b : Int) : Int := a.fdiv (2 ^ (min b.toNat k.bits))

def constR : Value → Option Ref
  | .pointer none => some .nilptr
  | .slice none 0 0 => some .nilslice
  | .nilFunc => some .nilFunc
  | .nilIface => some .nilIface
  | .map none => some .nilmap
  | .func (.func f) ⟨[]⟩ ⟨[]⟩ => some (.func (.func f) [] [])
  | _ => none

def constSV : Value → SV
  | .int k n => match inR k n with
    | true => .v (.int k) n
    | false => .any
  | .bool b => .v .bool b
  | .string s => if s.size ≤ 9223372036854775807 then .v .str s else .any
  | .pointer none => .v (.ref .ptr) .nilptr
  | .slice none 0 0 => .v (.ref .slice) .nilslice
  | .nilFunc => .v (.ref .func) .nilFunc
  | .nilIface => .v (.ref .iface) .nilIface
  | .map none => .v (.ref .map) .nilmap
  | .func (.func f) ⟨[]⟩ ⟨[]⟩ => .v (.ref .func) (.func (.func f) [] [])
  | _ => .any

structure St where
  tm : List SV
  hp : List (Option Blk)

def St.ev (S : St) : Operand → SV
  | .tmp t => S.tm.getD t .any
  | .const v => constSV v
  | .func f => .v (.ref .func) (.func (.func f) [] [])
  | .global _ => .any

def St.at (S : St) (i : Nat) : Option Blk := (S.hp[i]?).bind id

/-- A slot's data, and when it is there. -/
def SV.val : SV → Option (List Prop × AV)
  | .v t x => some ([], ⟨t, x⟩)
  | .opt c t x => some ([c = true], ⟨t, x⟩)
  | _ => none

def guardP (c : Bool) (w : Bool) (ps : List Prop) : List Prop := match ps with
  | [] => []
  | ps => [c = w → allP ps]

def pickE (c : SV) (a b : SV) : Option Out :=
  c.val.bind fun (pc, c) => a.val.bind fun (pa, a) => b.val.bind fun (pb, b) =>
  match c with
  | ⟨.bool, c⟩ => (b.as a.t).map fun y => ⟨pc ++ guardP c true pa ++ guardP c false pb, .v a.t (bif c then a.x else y), []⟩
  | _ => none

/-- Data as a reference (what is put into an interface or a closure). -/
def Ty.toRef : (t : Ty) → t.I → Option (List Ref)
  | .int k, x => some [.int k x]
  | .bool, x => some [.bool x]
  | .str, x => some [.str x]
  | .ref _, x => some [x]
  | .unit, _ => some []
  | .arr .., _ => none
  | .last a, x => a.toRef x
  | .cons a r, x => (a.toRef x.1).bind fun l => (r.toRef x.2).map (l ++ ·)

def AV.toR (a : AV) : Option Ref := (a.t.toRef a.x).bind fun l => match a.t.agg, l with
  | true, l => some (.agg l)
  | false, [r] => some r
  | _, _ => none

def Ty.ofRef : (t : Ty) → List Ref → Option (t.I × List Ref)
  | .int k, .int k' x :: l => if k = k' then some (x, l) else none
  | .bool, .bool x :: l => some (x, l)
  | .str, .str x :: l => some (x, l)
  | .ref _, x :: l => some (x, l)
  | .unit, l => some ((), l)
  | .last a, l => a.ofRef l
  | .cons a r, l => (a.ofRef l).bind fun (x, l) => (r.ofRef l).map fun (y, l) => ((x, y), l)
  | _, _ => none

/-- Is a reference one that lies in several cells. -/
def Ref.isAgg : Ref → Bool
  | .agg _ => true
  | _ => false

def flatR : List Ref → Bool
  | [] => true
  | r :: l => !r.isAgg && flatR l

def ofR (t : Ty) (r : Ref) : Option t.I := match t.agg, r.isAgg with
  | true, true => match r with
    | .agg l => match flatR l with
      | true => (t.ofRef l).bind fun (x, l) => match l with | [] => some x | _ => none
      | false => none
    | _ => none
  | false, false => (t.ofRef [r]).bind fun (x, l) => match l with | [] => some x | _ => none
  | _, _ => none

/-- Equality of data. -/
def Ty.eqb : (t : Ty) → t.I → t.I → Bool
  | .int _, x, y => decide (x = y)
  | .bool, x, y => x == y
  | .str, x, y => decide (x = y)
  | .unit, _, _ => true
  | .arr n t, x, y => (List.range n).all fun i => t.eqb (List.getD x i t.dflt) (List.getD y i t.dflt)
  | .last a, x, y => a.eqb x y
  | .cons a r, x, y => a.eqb x.1 y.1 && r.eqb x.2 y.2
  | .ref _, _, _ => false

/-- Are two pointers or functions, of which one is nil, the same. -/
def Ref.isNilOf (k : RK) : Ref → Ref → Option (List Prop × Bool) := fun a b => match k, a, b with
  | .ptr, .nilptr, .nilptr => some ([], true)
  | .ptr, .nilptr, .ptr .. => some ([], false)
  | .ptr, .ptr .., .nilptr => some ([], false)
  | .func, .nilFunc, .nilFunc => some ([], true)
  | .func, .nilFunc, .func .. => some ([], false)
  | .func, .func .., .nilFunc => some ([], false)
  | .slice, .slice _ _ _ _ n, .nilslice => some ([0 < n], false)
  | _, _, _ => none

def Ty.depth : Ty → Nat
  | .arr _ t => t.depth + 1
  | .last a => a.depth + 1
  | .cons a r => max (a.depth + 1) (r.depth)
  | _ => 1

def binE (D : TI) (op : BinOp) (T : TypeId) : AV → AV → Option (List Prop × AV)
  | ⟨.int k, a⟩, ⟨.int k', b⟩ => match op with
    | .shl => some ([0 ≤ b], ⟨.int k, ishl k a b⟩)
    | .shr => some ([0 ≤ b], ⟨.int k, ishr k a b⟩)
    | _ => if k = k' then match op with
      | .add => some ([], ⟨.int k, k.wrap (a + b)⟩)
      | .sub => some ([], ⟨.int k, k.wrap (a - b)⟩)
      | .mul => some ([], ⟨.int k, k.wrap (a * b)⟩)
      | .quo => some ([b ≠ 0], ⟨.int k, k.wrap (a.tdiv b)⟩)
      | .rem => some ([b ≠ 0], ⟨.int k, a.tmod b⟩)
      | .and => some ([], ⟨.int k, iand k a b⟩)
      | .or => some ([], ⟨.int k, ior k a b⟩)
      | .xor => some ([], ⟨.int k, ixor k a b⟩)
      | .andNot => some ([], ⟨.int k, iandNot k a b⟩)
      | .eql => some ([], ⟨.bool, decide (a = b)⟩)
      | .neq => some ([], ⟨.bool, !decide (a = b)⟩)
      | .lss => some ([], ⟨.bool, decide (a < b)⟩)
      | .leq => some ([], ⟨.bool, decide (a ≤ b)⟩)
      | .gtr => some ([], ⟨.bool, decide (b < a)⟩)
      | .geq => some ([], ⟨.bool, decide (b ≤ a)⟩)
      | _ => none
      else none
  | ⟨.bool, a⟩, ⟨.bool, b⟩ => match op, D.ty T with
    | .eql, some .bool => some ([], ⟨.bool, a == b⟩)
    | .neq, some .bool => some ([], ⟨.bool, !(a == b)⟩)
    | _, _ => none
  | ⟨.str, a⟩, ⟨.str, b⟩ => match op with
    | .eql => some ([], ⟨.bool, decide (a = b)⟩)
    | .neq => some ([], ⟨.bool, !decide (a = b)⟩)
    | .add => some ([a.size + b.size ≤ 9223372036854775807], ⟨.str, a ++ b⟩)
    | _ => none
  | ⟨t, a⟩, ⟨t', b⟩ => if h : t' = t ∧ t.agg = true ∧ t.noRef = true ∧ D.ty T = some t ∧ D.eqok T = true ∧ t.depth < 100 then match op with
    | .eql => some ([], ⟨.bool, t.eqb a (h.1 ▸ b)⟩)
    | .neq => some ([], ⟨.bool, !t.eqb a (h.1 ▸ b)⟩)
    | _ => none
    else none

def unE (op : UnOp) : AV → Option AV
  | ⟨.int k, a⟩ => match op with
    | .neg => some ⟨.int k, k.wrap (0 - a)⟩
    | .xor => some ⟨.int k, ixor k (if k.signed then -1 else k.max) a⟩
    | _ => none
  | ⟨.bool, a⟩ => match op with
    | .not => some ⟨.bool, !a⟩
    | _ => none
  | _ => none

/-! ### Operations -/

/-- What an operation comes to: conditions, value, changed and new blocks, blocks looked at. -/
structure Eff where
  pre : List Prop
  v : SV
  upd : List (Nat × Option Blk)
  foot : List Nat

def Eff.pure (ps : List Prop) (a : AV) : Eff := ⟨ps, .v a.t a.x, [], []⟩

def svI : SV → Option (List Prop × Int)
  | .v (.int _) x => some ([], x)
  | .opt c (.int _) x => some ([c = true], x)
  | _ => none

def svR : SV → Option (List Prop × Ref)
  | .v (.ref _) x => some ([], x)
  | .opt c (.ref _) x => some ([c = true], x)
  | _ => none

def refSV : Ref → SV
  | .int k x => .v (.int k) x
  | .bool b => .v .bool b
  | .str s => .v .str s
  | r@(.nilptr) | r@(.ptr ..) | r@(.sub ..) => .v (.ref .ptr) r
  | r@(.nilslice) | r@(.slice ..) => .v (.ref .slice) r
  | r@(.nilFunc) | r@(.func ..) => .v (.ref .func) r
  | r@(.nilIface) | r@(.iface ..) => .v (.ref .iface) r
  | r@(.nilmap) | r@(.map ..) => .v (.ref .map) r
  | .agg _ => .any

def vals : List SV → Option (List Prop × List AV)
  | [] => some ([], [])
  | s :: l => s.val.bind fun (p, a) => (vals l).map fun (q, as) => (p ++ q, a :: as)

def rowGet {α : Type} (one : Bool) (l : List α) (i : Nat) (d : α) : α := match one with
  | true => match l, i with
    | [x], 0 => x
    | l, i => l.getD i d
  | false => l.getD i d
def rowSet {α : Type} (one : Bool) (l : List α) (i : Nat) (y : α) : List α := match one with
  | true => match l, i with
    | [_], 0 => [y]
    | l, i => l.set i y
  | false => l.set i y
def rowIn {α : Type} (one : Bool) (l : List α) (i : Nat) : List Prop := match one with
  | true => match l, i with
    | [_], 0 => []
    | l, i => [i < l.length]
  | false => [i < l.length]

/-- What lies at a place of a block. -/
def Blk.rd (b : Blk) : List Nat → Option (List Prop × AV)
  | i :: p => match b.isMap with
    | true => none
    | false => (rdp p ⟨b.t, rowGet b.one b.xs i b.t.dflt⟩).map fun a => (rowIn b.one b.xs i ++ okp p b.t, a)
  | [] => none

def Blk.wr (b : Blk) (y : AV) : List Nat → Option (List Prop × Blk)
  | i :: p => match b.ro with
    | true => none
    | false => (wrp p ⟨b.t, rowGet b.one b.xs i b.t.dflt⟩ y).map fun z => (rowIn b.one b.xs i ++ okp p b.t, ⟨false, b.one, b.t, rowSet b.one b.xs i z⟩)
  | [] => none

/-- The elements that a slice has, where its rows are of type 't'. -/
def Blk.els (b : Blk) (p : List Nat) (t : Ty) : Option (List Prop × List t.I) := match b.isMap with
  | true => none
  | false => match p with
    | [] => (AV.mk (.arr 0 b.t) b.xs).as (.arr 0 t) |>.map fun l => ([], l)
    | i :: p => (rdp p ⟨b.t, rowGet b.one b.xs i b.t.dflt⟩).bind fun a => match a with
      | ⟨.arr _ u, l⟩ => (AV.mk (.arr 0 u) l).as (.arr 0 t) |>.map fun l => (rowIn b.one b.xs i ++ okp p b.t, l)
      | _ => none

def seg {α : Type} (l : List α) (o n : Nat) : List α := (l.drop o).take n
def splice {α : Type} (l : List α) (o : Nat) (y : List α) : List α := l.take o ++ y ++ l.drop (o + y.length)

def bytesOf (l : List Int) : ByteArray := ⟨(l.map fun n => UInt8.ofNat n.toNat).toArray⟩
def ofBytes (s : ByteArray) : List Int := s.data.toList.map fun b => (b.toNat : Int)

def loadE (L : Nat → Option Blk) (T : Option Ty) (r : Ref) : Option Eff := match r with
  | .ptr b t p => (L b).bind fun k => (k.rd p).bind fun (ps, a) => match decide (k.t = t), decide (T = some a.t) with
    | true, true => some ⟨ps, .v a.t a.x, [], [b]⟩
    | _, _ => none
  | .sub b t p o n => (L b).bind fun k => match T with
    | some (.arr m u) => (k.els p u).bind fun (ps, l) => match decide (k.t = t), decide (m = n) with
      | true, true => some ⟨ps ++ [o + n ≤ l.length], .v (.arr m u) (seg l o n), [], [b]⟩
      | _, _ => none
    | _ => none
  | _ => none

def storeE (L : Nat → Option Blk) (r : Ref) (y : AV) : Option Eff := match r with
  | .ptr b t p => (L b).bind fun k => (k.wr y p).bind fun (ps, k') => match decide (k.t = t) with
    | true => some ⟨ps, .any, [(b, some k')], [b]⟩
    | false => none
  | _ => none

def okB : Ty → Nat → Bool
  | .arr n _, i => decide (i < n)
  | _, _ => true

def buildGo (t : Ty) : List (Nat × AV) → t.I → Option t.I
  | [], x => some x
  | (i, y) :: l, x => match okB t i with
    | true => (wrp [i] ⟨t, x⟩ y).bind (buildGo t l)
    | false => none

def rowGo (t : Ty) : List (Nat × AV) → List t.I → Option (List t.I)
  | [], x => some x
  | (i, y) :: l, x => (y.as t).bind fun y => match decide (i < x.length) with
    | true => rowGo t l (x.set i y)
    | false => none

def lenE (D : TI) (T : TypeId) (a : AV) : Option AV := match a with
  | ⟨.ref _, .nilslice⟩ => (D.sl T).map fun _ => ⟨.int .i64, (0 : Int)⟩
  | ⟨.ref _, .slice _ _ _ _ n⟩ => (D.sl T).map fun _ => ⟨.int .i64, (n : Int)⟩
  | ⟨.str, s⟩ => match D.ty T with
    | some .str => some ⟨.int .i64, (ByteArray.size s : Int)⟩
    | _ => none
  | ⟨.arr n t, _⟩ => match decide (D.ty T = some (.arr n t) ∧ n ≤ 16777216) with
    | true => some ⟨.int .i64, (n : Int)⟩
    | false => none
  | _ => none

def max2E (isMax : Bool) : AV → AV → Option AV
  | ⟨.int k, x⟩, ⟨.int k', y⟩ => match decide (k = k'), isMax with
    | true, true => some ⟨.int k, max (x : Int) y⟩
    | true, false => some ⟨.int k, min (x : Int) y⟩
    | false, _ => none
  | _, _ => none

def maxGo (isMax : Bool) : AV → List AV → Option AV
  | a, [] => some a
  | a, y :: l => (max2E isMax a y).bind fun b => maxGo isMax b l

def maxE (isMax : Bool) : List AV → Option AV
  | a :: l => maxGo isMax a l
  | [] => none

/-- The elements of a slice, of rows of type 't'. -/
def elsE (L : Nat → Option Blk) (t : Ty) (r : Ref) : Option (List Prop × List t.I × List Nat) := match r with
  | .nilslice => some ([], [], [])
  | .slice b u p o n => (L b).bind fun k => match decide (k.t = u) with
    | true => (k.els p t).map fun (ps, l) => (ps ++ [o + n ≤ l.length], seg l o n, [b])
    | false => none
  | _ => none

def lim : Nat := 70368744177664

def appE (D : TI) (L : Nat → Option Blk) (m : Nat) (T : TypeId) (s x : Ref) : Option Eff :=
  (D.sl T).bind fun e => (D.ty e).bind fun t => (elsE L t x).bind fun (ps, ys, fx) => match s with
  | .nilslice => match decide (t.size = 0 ∨ D.bytes e = 0) with
    | true => none
    | false => some ⟨ps ++ [0 < ys.length, ys.length * D.bytes e ≤ lim], .v (.ref .slice) (.slice m t [] 0 ys.length), [(m, some ⟨false, false, t, ys⟩)], fx⟩
  | .slice b u [] o n => (L b).bind fun k => match k.ro, decide (k.t = u), fx.elem b, decide (t.size = 0 ∨ D.bytes e = 0) with
    | false, true, false, false => (k.els [] t).map fun (_, l) =>
      ⟨ps ++ [o + n = l.length, (n + ys.length) * D.bytes e ≤ lim], .v (.ref .slice) (.slice m t [] 0 (n + ys.length)), [(b, none), (m, some ⟨false, false, t, l.drop o ++ ys⟩)], b :: fx⟩
    | _, _, _, _ => none
  | _ => none

/-- A block with other elements at a row. -/
def Blk.wrEls (k : Blk) (t : Ty) : List Nat → List t.I → Option Blk
  | [], z => ((AV.mk (.arr 0 t) z).as (.arr 0 k.t)).map fun z => ⟨false, k.one, k.t, z⟩
  | i :: p, z => match subt p k.t with
    | some (.arr w _) => (k.wr ⟨.arr w t, z⟩ (i :: p)).map (·.2)
    | _ => none

def copyE (D : TI) (L : Nat → Option Blk) (T : TypeId) (s x : Ref) : Option Eff :=
  (D.sl T).bind fun e => (D.ty e).bind fun t => (elsE L t x).bind fun (ps, ys, fx) => match s with
  | .nilslice => some ⟨ps, .v (.int .i64) (0 : Int), [], fx⟩
  | .slice b u p o n => (L b).bind fun k => (k.els p t).bind fun (qs, l) => match k.ro, decide (k.t = u) with
    | false, true => (k.wrEls t p (splice l o (ys.take n))).map fun k' =>
      ⟨ps ++ (qs ++ [o + n ≤ l.length]), .v (.int .i64) ((min ys.length n : Nat) : Int), [(b, some k')], b :: fx⟩
    | _, _ => none
  | _ => none

def bLo : Option Int → List Prop
  | some l => [0 ≤ l]
  | none => []
def bMid (n : Nat) : Option Int → Option Int → List Prop
  | none, none => []
  | none, some h => [0 ≤ h]
  | some l, none => [l ≤ (n : Int)]
  | some l, some h => [l ≤ h]
def bHi (n : Nat) : Option Int → Option Int → List Prop
  | some h, none => [h ≤ (n : Int)]
  | some h, some m => [h ≤ m]
  | none, _ => []
def bMax (n : Nat) : Option Int → List Prop
  | some m => [m ≤ (n : Int)]
  | none => []

def boundsE (lo hi mx : Option Int) (n : Nat) : List Prop × Nat × Nat :=
  (bLo lo ++ (bMid n lo hi ++ (bHi n hi mx ++ bMax n mx)), (lo.getD 0).toNat, (hi.getD (n : Int)).toNat - (lo.getD 0).toNat)

def sliceE (D : TI) (L : Nat → Option Blk) (T : TypeId) (x : AV) (lo hi mx : Option Int) : Option Eff := match x with
  | ⟨.ref _, .ptr b t (i :: p)⟩ => match D.ty T, subt p t with
    | some (.arr n u), some (.arr n' u') => match decide (n' = n ∧ u' = u) with
      | true => match hi, mx with
        | none, some _ => none
        | _, _ => (L b).bind fun k => (k.els (i :: p) u).bind fun (qs, _) => match decide (k.t = t), boundsE lo hi mx n with
          | true, (ps, l, c) => some ⟨ps ++ (qs ++ [n ≤ 9223372036854775807]), .v (.ref .slice) (.slice b t (i :: p) l c), [], [b]⟩
          | false, _ => none
      | false => none
    | _, _ => none
  | ⟨.ref _, .slice b t p o n⟩ => match (D.sl T).bind D.ty, subt p (.arr 0 t) with
    | some u, some (.arr _ u') => match decide (u' = u) with
      | true => match hi, mx with
        | none, some _ => none
        | _, _ => match boundsE lo hi mx n with
          | (ps, l, c) => some ⟨ps, .v (.ref .slice) (.slice b t p (o + l) c), [], []⟩
      | false => none
    | _, _ => none
  | ⟨.ref _, .nilslice⟩ => match D.sl T with
    | some _ => match hi, mx with
      | none, some _ => none
      | _, _ => match boundsE lo hi mx 0 with
        | (ps, _, _) => some ⟨ps, .v (.ref .slice) .nilslice, [], []⟩
    | none => none
  | ⟨.str, s⟩ => match D.ty T, mx with
    | some .str, none => match boundsE lo hi none (ByteArray.size s) with
      | (ps, l, c) => some ⟨ps, .v .str (ByteArray.extract s l (l + c)), [], []⟩
    | _, _ => none
  | _ => none

def convE (D : TI) (L : Nat → Option Blk) (m : Nat) (src dst : TypeId) (a : AV) : Option Eff := match a, D.ty dst, D.ty src with
  | ⟨.int _, n⟩, some (.int k), some _ => some (.pure [] ⟨.int k, k.wrap n⟩)
  | ⟨.str, s⟩, some .str, some _ => some (.pure [] ⟨.str, s⟩)
  | ⟨.ref _, r⟩, some .str, some _ => match (D.sl src).bind D.ty with
    | some (.int .u8) => (elsE L (.int .u8) r).map fun (ps, ys, f) => ⟨ps, .v .str (bytesOf ys), [], f⟩
    | _ => none
  | ⟨.str, s⟩, some (.ref .slice), some .str => match (D.sl dst).bind D.ty with
    | some (.int .u8) => some ⟨[], .v (.ref .slice) (.slice m (.int .u8) [] 0 (ByteArray.size s)), [(m, some ⟨false, false, .int .u8, ofBytes s⟩)], []⟩
    | _ => none
  | _, _, _ => none

def optI : Option SV → Option (List Prop × Option Int)
  | none => some ([], none)
  | some s => (svI s).map fun (p, x) => (p, some x)

/-- Plain data of bytes at an index of a string. -/
def byteAt (s : ByteArray) (i : Nat) : Int := ((s.data.toList.getD i 0).toNat : Int)

def Ref.isF : Ref → Option (FuncId × List Ref × List Ref)
  | .func (.func f) a c => some (f, a, c)
  | _ => none

/-! ### Maps -/

def Ty.isKey : Ty → Bool
  | .int _ => true
  | .str => true
  | .bool => true
  | _ => false
def keyEq : (t : Ty) → t.I → t.I → Bool
  | .int _, x, y => decide (x = y)
  | .bool, x, y => x == y
  | .str, x, y => decide (x = y)
  | _, _, _ => false
/-- What a map has at a key. -/
def getK (K V : Ty) : List (K.I × V.I) → K.I → Option V.I
  | [], _ => none
  | e :: l, x => match keyEq K x e.1 with
    | true => some e.2
    | false => getK K V l x
/-- A map with something at a key. -/
def putK (K V : Ty) : List (K.I × V.I) → K.I → V.I → List (K.I × V.I)
  | [], x, y => [(x, y)]
  | e :: l, x, y => match keyEq K x e.1 with
    | true => (x, y) :: l
    | false => e :: putK K V l x y
def mapTys (D : TI) (T : TypeId) : Option (Ty × Ty) := (D.mp T).bind fun (k, v) => (D.ty k).bind fun K => (D.ty v).bind fun V => match K.isKey with
  | true => some (K, V)
  | false => none
def Blk.ents (b : Blk) (K V : Ty) : Option (List (K.I × V.I)) := match b.isMap with
  | true => (AV.mk (.arr 0 b.t) b.xs).as (.arr 0 (.cons K (.last V)))
  | false => none
def getE {t : Ty} (o : Option t.I) : t.I := match o with
  | some x => x
  | none => t.dflt
def hasE {α : Type} : Option α → Bool
  | some _ => true
  | none => false
def makeMapE (D : TI) (m : Nat) (T : TypeId) : Option Eff := (mapTys D T).map fun (K, V) =>
  ⟨[], .v (.ref .map) (.map m), [(m, some ⟨true, true, .cons K (.last V), []⟩)], []⟩
def lookupE (D : TI) (L : Nat → Option Blk) (T : TypeId) (r : Ref) (a : AV) (ok : Bool) : Option Eff := (mapTys D T).bind fun (K, V) => (a.as K).bind fun x => match r with
  | .map b => (L b).bind fun k => (k.ents K V).map fun l => match ok with
    | true => ⟨[], .tup [⟨V, getE (getK K V l x)⟩, ⟨.bool, hasE (getK K V l x)⟩], [], [b]⟩
    | false => ⟨[], .v V (getE (getK K V l x)), [], [b]⟩
  | _ => none
def updateE (D : TI) (L : Nat → Option Blk) (T : TypeId) (r : Ref) (a y : AV) : Option Eff := (mapTys D T).bind fun (K, V) => (a.as K).bind fun x => (y.as V).bind fun y => match r with
  | .map b => (L b).bind fun k => (k.ents K V).map fun l => ⟨[], .any, [(b, some ⟨true, true, .cons K (.last V), putK K V l x y⟩)], [b]⟩
  | _ => none

def opE [GTab] (D : TI) (ρ : Operand → SV) (L : Nat → Option Blk) (m : Nat) (op : Op) : Option Eff := match op with
  | .move x | .assign x => some ⟨[], ρ x, [], []⟩
  | .pick c a b => (pickE (ρ c) (ρ a) (ρ b)).map fun o => ⟨o.pre, o.v, [], []⟩
  | .alloc T => (D.ty T).map fun t => ⟨[], .v (.ref .ptr) (.ptr m t [0]), [(m, some ⟨false, true, t, [t.dflt]⟩)], []⟩
  | .box T x => (D.ty T).bind fun t => (ρ x).val.bind fun (p, a) => (a.as t).map fun y =>
      ⟨p, .v (.ref .ptr) (.ptr m t [0]), [(m, some ⟨false, true, t, [y]⟩)], []⟩
  | .build T ps => (D.ty T).bind fun t => (vals (ps.toList.map fun q => ρ q.2)).bind fun (p, as) =>
      match t.agg with
      | true => (buildGo t ((ps.toList.map (·.1)).zip as) t.dflt).map fun y => ⟨p, .v t y, [], []⟩
      | false => none
  | .buildSlice T n ps => (D.sl T).bind fun e => (D.ty e).bind fun t => (vals (ps.toList.map fun q => ρ q.2)).bind fun (p, as) =>
      match decide (n * t.size ≤ 16777216 ∧ n ≤ 16777216) with
      | true => (rowGo t ((ps.toList.map (·.1)).zip as) (List.replicate n t.dflt)).map fun y =>
        ⟨p, .v (.ref .slice) (.slice m t [] 0 n), [(m, some ⟨false, false, t, y⟩)], []⟩
      | false => none
  | .load T a => match a with
    | .global g => (GTab.tab g).bind fun a => match decide (D.ty T = some a.t) with
      | true => some (.pure [] a)
      | false => none
    | a => match ρ a with
      | .gel g k => (GTab.tab g).bind fun a => match a with
        | ⟨.arr n (.int κ), l⟩ => match decide (D.ty T = some (.int κ)) with
          | true => some (.pure [k < n] ⟨.int κ, List.getD l k 0⟩)
          | false => none
        | _ => none
      | s => (svR s).bind fun (p, r) => (loadE L (D.ty T) r).map fun e => { e with pre := p ++ e.pre }
  | .store T a x => (svR (ρ a)).bind fun (p, r) => (ρ x).val.bind fun (q, y) => match decide (D.ty T = some y.t) with
      | true => (storeE L r y).map fun e => { e with pre := p ++ q ++ e.pre }
      | false => none
  | .nilCheck x => (svR (ρ x)).bind fun (p, r) => match r with
      | .ptr b t q => some ⟨p, .v (.ref .ptr) (.ptr b t q), [], []⟩
      | .func (.func f) a c => some ⟨p, .v (.ref .func) (.func (.func f) a c), [], []⟩
      | _ => none
  | .binOp o T x y _ => (ρ x).val.bind fun (p, a) => (ρ y).val.bind fun (q, b) => match a, b with
      | ⟨.ref _, a⟩, ⟨.ref _, b⟩ => match D.ty T with
        | some (.ref k) => match o, Ref.isNilOf k a b with
          | .eql, some (c, r) => some (.pure (p ++ q ++ c) ⟨.bool, r⟩)
          | .neq, some (c, r) => some (.pure (p ++ q ++ c) ⟨.bool, !r⟩)
          | _, _ => none
        | _ => none
      | a, b => (binE D o T a b).map fun (r, v) => .pure (p ++ q ++ r) v
  | .unOp o _ x => (ρ x).val.bind fun (p, a) => (unE o a).map fun v => .pure p v
  | .convert s d x => (ρ x).val.bind fun (p, a) => (convE D L m s d a).map fun e => { e with pre := p ++ e.pre }
  | .sliceToArrayPointer T x => (svR (ρ x)).bind fun (p, r) => match r, D.ty T with
      | .slice b t q o n, some (.arr k _) => match k with
        | 0 => none
        | k + 1 => some ⟨p ++ [k + 1 ≤ n], .v (.ref .ptr) (.sub b t q o (k + 1)), [], []⟩
      | _, _ => none
  | .makeInterface T x => (ρ x).val.bind fun (p, a) => match decide (D.ty T = some a.t), (D.ty T) with
      | true, some (.ref .iface) => none
      | true, some _ => a.toR.map fun r => ⟨p, .v (.ref .iface) (.iface T r), [], []⟩
      | _, _ => none
  | .typeAssert x _ T ok => (svR (ρ x)).bind fun (p, r) => match r, ok, D.ty T with
      | .iface T' v, false, some t => match decide (T' = T), t with
        | _, .ref .iface => none
        | true, t => (ofR t v).map fun y => ⟨p, .v t y, [], []⟩
        | false, _ => none
      | _, _, _ => none
  | .makeFunc f a c => (vals (a.toList.map ρ)).bind fun (p, as) => (vals (c.toList.map ρ)).bind fun (q, cs) =>
      (as.mapM AV.toR).bind fun a => (cs.mapM AV.toR).map fun c => ⟨p ++ q, .v (.ref .func) (.func f a c), [], []⟩
  | .makeSlice T n c => (svI (ρ n)).bind fun (p, a) => (svI (ρ c)).bind fun (q, b) => (D.sl T).bind fun e => (D.ty e).map fun t =>
      ⟨p ++ q ++ [0 ≤ a ∧ b = a ∧ a * D.bytes e ≤ lim ∧ a ≤ lim], .v (.ref .slice) (.slice m t [] 0 a.toNat), [(m, some ⟨false, false, t, List.replicate a.toNat t.dflt⟩)], []⟩
  | .makeMap T none => makeMapE D m T
  | .lookup T x i ok => (svR (ρ x)).bind fun (p, r) => (ρ i).val.bind fun (q, a) => (lookupE D L T r a ok).map fun e => { e with pre := p ++ q ++ e.pre }
  | .mapUpdate T x i y => (svR (ρ x)).bind fun (p, r) => (ρ i).val.bind fun (q, a) => (ρ y).val.bind fun (s, y) => (updateE D L T r a y).map fun e => { e with pre := p ++ q ++ s ++ e.pre }
  | .insert T x i y => (svR (ρ x)).bind fun (p, r) => (ρ i).val.bind fun (q, a) => (ρ y).val.bind fun (s, y) => (updateE D L T r a y).map fun e => { e with pre := p ++ q ++ s ++ e.pre }
  | .slice T x lo hi mx => (ρ x).val.bind fun (p, a) => (optI (lo.map ρ)).bind fun (q, lo) => (optI (hi.map ρ)).bind fun (r, hi) =>
      (optI (mx.map ρ)).bind fun (s, mx) => (sliceE D L T a lo hi mx).map fun e => { e with pre := p ++ q ++ r ++ s ++ e.pre }
  | .fieldAddr T x f => (svR (ρ x)).bind fun (p, r) => match r, D.ty T with
      | .ptr b t (i :: q), some u => match decide (subt q t = some u), u.fty f with
        | true, some w => match decide (w.size = 0) with
          | true => none
          | false => some ⟨p, .v (.ref .ptr) (.ptr b t (i :: q ++ [f])), [], []⟩
        | _, _ => none
      | _, _ => none
  | .field T x f => (ρ x).val.bind fun (p, a) => match decide (D.ty T = some a.t) with
      | true => (a.t.fld a.x f).map fun v => .pure p v
      | false => none
  | .indexAddr T x i => match x with
    | .global g => (svI (ρ i)).bind fun (q, i) => (GTab.tab g).bind fun a => match a with
      | ⟨.arr n (.int κ), _⟩ => match decide (D.ty T = some (.arr n (.int κ))) with
        | true => some ⟨q ++ [0 ≤ i ∧ i < (n : Int)], .gel g i.toNat, [], []⟩
        | false => none
      | _ => none
    | x => (svR (ρ x)).bind fun (p, r) => (svI (ρ i)).bind fun (q, i) => match r with
      | .slice b t w o n => match (D.sl T).bind D.ty, subt w (.arr 0 t) with
        | some u, some (.arr _ u') => match decide (u' = u) with
          | true => some ⟨p ++ q ++ [0 ≤ i ∧ i < (n : Int)], .v (.ref .ptr) (.ptr b t (w ++ [o + i.toNat])), [], []⟩
          | false => none
        | _, _ => none
      | .ptr b t (j :: w) => match D.ty T, subt w t with
        | some (.arr n u), some (.arr n' u') => match decide (n' = n ∧ u' = u) with
          | true => some ⟨p ++ q ++ [0 ≤ i ∧ i < (n : Int)], .v (.ref .ptr) (.ptr b t (j :: w ++ [i.toNat])), [], []⟩
          | false => none
        | _, _ => none
      | _ => none
  | .index T x i => (ρ x).val.bind fun (p, a) => (svI (ρ i)).bind fun (q, i) => match a with
      | ⟨.arr n t, l⟩ => match decide (D.ty T = some (.arr n t)) with
        | true => some (.pure (p ++ q ++ [0 ≤ i ∧ i < (n : Int)]) ⟨t, List.getD l i.toNat t.dflt⟩)
        | false => none
      | ⟨.str, s⟩ => match D.ty T with
        | some .str => some (.pure (p ++ q ++ [0 ≤ i ∧ i < (ByteArray.size s : Int)]) ⟨.int .u8, byteAt s i.toNat⟩)
        | _ => none
      | _ => none
  | .extract x i => match ρ x with
      | .tup l => (l[i]?).map fun a => .pure [] a
      | _ => none
  | .call { callee := .builtin b, args, argTypes } => (vals (args.toList.map ρ)).bind fun (p, as) => match b, as, argTypes.toList with
      | .len, [a], [T] => (lenE D T a).map fun v => .pure p v
      | .max, as, _ => (maxE true as).map fun v => .pure p v
      | .min, as, _ => (maxE false as).map fun v => .pure p v
      | .append, [⟨.ref _, s⟩, ⟨.ref _, x⟩], [T, T'] => match decide (T' = T) with
        | true => (appE D L m T s x).map fun e => { e with pre := p ++ e.pre }
        | false => none
      | .copy, [⟨.ref _, s⟩, ⟨.ref _, x⟩], [T, T'] => match decide (T' = T) with
        | true => (copyE D L T s x).map fun e => { e with pre := p ++ e.pre }
        | false => none
      | _, _, _ => none
  | _ => none

end Go.SL

/- S-logic, part 2: how abstract states stand to the machine's; verification conditions. -/
namespace Go.SL
open Go

inductive LS | dead | virt | real
  deriving DecidableEq

/-- Where a block lies: the machine's block, the first cell, how many cells there are from there on; is it there at all. -/
structure Loc where
  blk : Nat
  base : Nat
  csz : Nat
  st : LS
  /-- may it be written -/
  rw : Bool

abbrev Env := Nat → Loc

def big : Nat := 9223372036854775807

mutual
def VR (E : Env) : Ref → Value → Prop
  | .nilptr, v => v = .pointer none
  | .nilslice, v => v = .slice none 0 0
  | .nilFunc, v => v = .nilFunc
  | .nilIface, v => v = .nilIface
  | .nilmap, v => v = .map none
  | .ptr b t p, v => (E b).st = .real ∧ v = .pointer (some ⟨(E b).blk, (E b).base + offp p (.arr 0 t), none⟩)
  | .sub b t p o _, v => (E b).st = .real ∧ v = .pointer (some ⟨(E b).blk, (E b).base + offp (p ++ [o]) (.arr 0 t), none⟩)
  | .slice b t p o n, v =>
    ((E b).st = .virt ∧ n = 0 ∧ p = [] ∧ v = .slice none 0 0) ∨
    ((E b).st = .real ∧ ∃ cap a, v = .slice (some ⟨(E b).blk, a, none⟩) n cap ∧ n ≤ cap ∧ cap ≤ big ∧
      (cap = 0 ∨ (a = (E b).base + offp (p ++ [o]) (.arr 0 t) ∧ offp (p ++ [o]) (.arr 0 t) + cap * esz p t ≤ (E b).csz)))
  | .func fn f c, v => ∃ f' c', v = .func fn f' c' ∧ VRs E f f'.toList ∧ VRs E c c'.toList
  | .iface T r, v => ∃ x, v = .iface T x ∧ VR E r x
  | .map b, v => (E b).st = .real ∧ v = .map (some (E b).blk)
  | .int k x, v => v = .int k x ∧ k.min ≤ x ∧ x ≤ k.max
  | .bool b, v => v = .bool b
  | .str s, v => v = .string s ∧ s.size ≤ big
  | .agg l, v => ∃ cs, v = .agg cs ∧ VRs E l cs.toList
def VRs (E : Env) : List Ref → List Value → Prop
  | [], vs => vs = []
  | r :: l, vs => ∃ v vs', vs = v :: vs' ∧ VR E r v ∧ VRs E l vs'
end

def LR {α : Type} (R : α → List Value → Prop) : List α → List Value → Prop
  | [], cs => cs = []
  | x :: xs, cs => ∃ c1 c2, cs = c1 ++ c2 ∧ R x c1 ∧ LR R xs c2

/-- Data and the cells that hold it. -/
def CR (E : Env) : (t : Ty) → t.I → List Value → Prop
  | .int k, x, cs => cs = [.int k x] ∧ k.min ≤ x ∧ x ≤ k.max
  | .bool, x, cs => cs = [.bool x]
  | .str, x, cs => cs = [.string x] ∧ ByteArray.size x ≤ big
  | .ref _, x, cs => ∃ v, cs = [v] ∧ VR E x v ∧ Ref.isAgg x = false
  | .unit, _, cs => cs = []
  | .arr n t, l, cs => List.length l = n ∧ LR (CR E t) l cs
  | .last a, x, cs => CR E a x cs
  | .cons a r, x, cs => ∃ c1 c2, cs = c1 ++ c2 ∧ CR E a x.1 c1 ∧ CR E r x.2 c2

def AR (E : Env) (a : AV) (v : Value) : Prop :=
  match a.t.agg with
  | true => ∃ cs, v = .agg cs ∧ CR E a.t a.x cs.toList
  | false => CR E a.t a.x [v]

def ARs (E : Env) : List AV → List Value → Prop
  | [], vs => vs = []
  | a :: l, vs => ∃ v vs', vs = v :: vs' ∧ AR E a v ∧ ARs E l vs'

def SR (E : Env) : SV → Value → Prop
  | .any, _ => True
  | .v t x, v => AR E ⟨t, x⟩ v
  | .opt c t x, v => (c = true → AR E ⟨t, x⟩ v) ∧ (c = false → v = undef)
  | .tup l, v => ∃ vs, v = .tuple vs ∧ ARs E l vs.toList
  | .gel g k, v => v = .pointer (some ⟨g, k, none⟩)

/-- A map's entry. -/
def MapE (E : Env) : (t : Ty) → t.I → MapEntry → Prop
  | .cons k (.last v), x, e => k.isKey = true ∧ AR E ⟨k, x.1⟩ e.key ∧ AR E ⟨v, x.2⟩ e.val
  | _, _, _ => False
def LF {α β : Type} (R : α → β → Prop) : List α → List β → Prop
  | [], l => l = []
  | x :: xs, l => ∃ y l', l = y :: l' ∧ R x y ∧ LF R xs l'
/-- A map, where it lies. -/
def MR (e : Loc) (E : Env) (b : Blk) (w : World) : Prop := e.rw = true ∧ ∃ es clock, w.heap[e.blk]? = some (.map es clock) ∧ LF (MapE E b.t) b.xs es.toList

/-- A row of cells, where it lies. -/
def BC (e : Loc) (E : Env) (b : Blk) (w : World) : Prop := ∃ cs T fr, w.heap[e.blk]? = some (.cells cs T fr) ∧ e.base + e.csz = cs.size ∧
      (∃ front cells rest, cs.toList = front ++ cells ++ rest ∧ front.length = e.base ∧ LR (CR E b.t) b.xs cells) ∧
      (b.ro = false → e.rw = true ∧ ∀ o, e.base ≤ o → o < cs.size → ¬ (fr.1 ≤ o ∧ o < fr.2))

/-- A block, where it lies. -/
def BR (e : Loc) (E : Env) (b : Blk) (w : World) : Prop :=
  match e.st with
  | .dead => False
  | .virt => b.xs = []
  | .real => match b.isMap with
    | true => MR e E b w
    | false => BC e E b w

theorem BR.cells {e : Loc} {E : Env} {b : Blk} {w : World} (h : BR e E b w) (hr : e.st = .real) (hm : b.isMap = false) : BC e E b w := by
  unfold BR at h; rw [hr] at h; dsimp only at h; rw [hm] at h; exact h
theorem BR.ofCells {e : Loc} {E : Env} {b : Blk} {w : World} (h : BC e E b w) (hr : e.st = .real) (hm : b.isMap = false) : BR e E b w := by
  unfold BR; rw [hr]; dsimp only; rw [hm]; exact h
theorem Blk.notMap {b : Blk} (h : b.ro = false) : b.isMap = false := by unfold Blk.isMap; rw [h]; cases b.one <;> rfl

/-- What holds of the variables that never turn: they hold what the table says, and nothing that may be written lies there. -/
def GOK [GTab] (E : Env) (w : World) : Prop := ∀ g a, GTab.tab g = some a →
  (∃ cs T fr, w.heap[g]? = some (.cells cs T fr) ∧ ∀ E', CR E' a.t a.x cs.toList) ∧ ∀ i, (E i).st = .real → (E i).rw = true → (E i).blk ≠ g

structure HR [GTab] (E : Env) (hp : Nat → Option Blk) (w : World) : Prop where
  gl : GOK E w
  blk : ∀ i b, hp i = some b → BR (E i) E b w
  inj : ∀ i j b c, hp i = some b → hp j = some c → (E i).st = .real → (E j).st = .real → (E i).rw = true → (E i).blk = (E j).blk → i = j

def hpF (hp : List (Option Blk)) (i : Nat) : Option Blk := (hp[i]?).bind id

structure Rel [GTab] (S : St) (E : Env) (a : Act) (w : World) : Prop where
  tm : ∀ i, SR E (S.tm.getD i .any) (a.tmps.getD i undef)
  sz : S.tm.length = a.tmps.size
  df : a.defers = []
  hp : HR E (hpF S.hp) w
  dead : ∀ i, S.hp.length ≤ i → (E i).st = .dead

/-- What may have happened between two worlds. -/
structure Fr (E : Env) (w : World) (E' : Env) (w' : World) : Prop where
  env : ∀ i, (E i).st ≠ .dead → E' i = E i
  new : ∀ i, (E i).st = .dead → (E' i).st = .real → w.heap.size ≤ (E' i).blk ∨ ∃ j, (E j).st = .real ∧ (E j).rw = true ∧ (E' i).blk = (E j).blk
  size : w.heap.size ≤ w'.heap.size
  keep : ∀ b, b < w.heap.size → (∀ j, (E j).st = .real → (E j).rw = true → (E j).blk ≠ b) → w'.heap[b]? = w.heap[b]?
  os : w'.os = w.os
  tape : w'.tape = w.tape
  output : w'.output = w.output

/-- How code ends. -/
inductive Ex | normal | exit (id : Nat) | ret

def exOf : Ex → Exit
  | .normal => .normal
  | .exit i => .exit i
  | .ret => .ret

/-- What code is held to do, told of the machine. -/
def VX [GTab] (P : Program) (c : Code) (S : St) (Q : Ex → St → Prop) : Prop :=
  ∀ E a w, Rel S E a w → c.wp P (fun e a' w' => ∃ x S' E', e = exOf x ∧ Q x S' ∧ Rel S' E' a' w' ∧ Fr E w E' w') a w

def outHp (ins : List Blk) (out : COut) : List (Option Blk) :=
  out.upd.foldl (fun h u => h.set u.1 u.2) (ins.map some) ++ out.news.map some

/-- What a function is held to do. -/
def VCall [GTab] (P : Program) (f : FuncId) (args : List AV) (ins : List Blk) (out : COut) : Prop :=
  ∀ E vs w, ARs E args vs → HR E (hpF (ins.map some)) w → (∀ i, ins.length ≤ i → (E i).st = .dead) →
    Calls P f vs.toArray w fun e w' => ∃ v E', e = .returned v ∧ SR E' out.v v ∧ HR E' (hpF (outHp ins out)) w' ∧
      (∀ i, (outHp ins out).length ≤ i → (E' i).st = .dead) ∧ Fr E w E' w'

/-- A function that has code of its own. -/
def Enters (P : Program) (f : FuncId) : Prop := ∃ fn, P.funcs[f]? = some fn ∧ (fn.name == "runtime.NumGoroutine") = false ∧ fn.body.isNone = false

def Sound [GTab] (P : Program) (G : FuncId → Option Spec) : Prop :=
  ∀ f s, G f = some s → Enters P f ∧ ∀ args ins out, s args ins = some out → allP out.pre → VCall P f args ins out

/-- Methods that need no way through embedded fields. -/
def Meth (P : Program) (meth : MethT) : Prop :=
  ∀ T nm f o, meth T nm = some (f, o) → match o with
    | none => ∀ v w, (method (P.types.size + Made.depth) T v nm).run P w = .ok (f, v) w
    | some U => ∀ ad v w, (loadVar U ad).run P w = .ok v w → (method (P.types.size + Made.depth) T (.pointer (some ad)) nm).run P w = .ok (f, v) w

end Go.SL

/- S-logic, part 3: verification conditions. -/
namespace Go.SL
open Go
variable [GTab]

/-! ### Calls by what a function is held to do -/

/-- The caller's number of a block, out of the callee's. -/
def outF (σ : List Nat) (m i : Nat) : Nat := if i < σ.length then σ.getD i 0 else m + (i - σ.length)

def newsF (σ : List Nat) (m : Nat) : List Blk → Nat → List (Nat × Option Blk)
  | [], _ => []
  | b :: l, j => (m + j, some (b.ren (outF σ m))) :: newsF σ m l (j + 1)

def callE (G : FuncId → Option Spec) (L : Nat → Option Blk) (m : Nat) (f : FuncId) (as : List AV) : Option Eff :=
  (G f).bind fun spec => (reach L 200 (as.flatMap AV.ids) []).bind fun σ =>
  (spec (as.map (AV.ren fun i => σ.idxOf i)) (σ.filterMap fun i => (L i).map (Blk.ren fun i => σ.idxOf i))).bind fun o =>
  match o.upd.all (fun u => decide (u.1 < σ.length)) && σ.all (fun i => decide (i < m)) with
  | true => some ⟨o.pre, o.v.ren (outF σ m), o.upd.map (fun u => (outF σ m u.1, u.2.map (Blk.ren (outF σ m)))) ++ newsF σ m o.news 0, σ⟩
  | false => none

def opX (D : TI) (G : FuncId → Option Spec) (meth : MethT) (ρ : Operand → SV) (L : Nat → Option Blk) (m : Nat) (op : Op) : Option Eff := match op with
  | .call { callee := .value g, args, .. } => (svR (ρ g)).bind fun (p, r) => r.isF.bind fun (f, a, c) => (vals (args.toList.map ρ)).bind fun (q, as) =>
      (vals (a.map refSV)).bind fun (_, fs) => (vals (c.map refSV)).bind fun (_, cs) => (callE G L m f (fs ++ as ++ cs)).map fun e => { e with pre := p ++ q ++ e.pre }
  | .call { callee := .invoke g nm, args, .. } => (svR (ρ g)).bind fun (p, r) => match r with
      | .iface T r => (meth T nm).bind fun (f, o) => (vals (args.toList.map ρ)).bind fun (q, as) => match o with
        | none => (vals [refSV r]).bind fun (_, fs) => (callE G L m f (fs ++ as)).map fun e => { e with pre := p ++ q ++ e.pre }
        | some U => (loadE L (D.ty U) r).bind fun l => l.v.val.bind fun (s, x) => (callE G L m f ([x] ++ as)).map fun e => ⟨(p ++ q) ++ (l.pre ++ s ++ e.pre), e.v, e.upd, l.foot ++ e.foot⟩
      | _ => none
  | op => opE D ρ L m op

/-- Under a guard. -/
def SV.under (c : Bool) : SV → Option SV
  | .any => some .any
  | .v t x => some (.opt c t x)
  | .opt d t x => some (.opt (c && d) t x)
  | .tup _ => none
  | .gel _ _ => none

def Eff.under (c : Bool) (e : Eff) : Option Eff := match e.upd with
  | [] => (e.v.under c).map fun v => ⟨guardP c true e.pre, v, [], e.foot⟩
  | _ => none

/-- A guard's outcome: is the operation wanted. -/
def guardC (want : Bool) : SV → Option Bool
  | .v .bool g => some (match want with | true => g | false => !g)
  | .opt p .bool g => some (p && match want with | true => g | false => !g)
  | _ => none

def putT (tm : List SV) (dst : Option Tmp) (v : SV) : List SV := match dst with
  | some d => tm.set d v
  | none => tm

def putH (hp : List (Option Blk)) (u : Nat × Option Blk) : List (Option Blk) :=
  if u.1 < hp.length then hp.set u.1 u.2 else if u.1 = hp.length then hp ++ [u.2] else hp

/-- An operation that has been done: its place, the first new block's number, its outcome, the number of blocks behind it. -/
structure Rec where
  i : Nat
  m : Nat
  e : Eff
  n : Nat

/-- Does an operation make or change memory, or call. -/
def effOp : Op → Bool
  | .alloc _ | .box .. | .buildSlice .. | .makeSlice .. | .store .. | .makeMap .. | .mapUpdate .. | .insert .. => true
  | .call { callee := .value _, .. } | .call { callee := .invoke .., .. } | .call { callee := .builtin .append, .. } | .call { callee := .builtin .copy, .. } => true
  | _ => false

def effUnder (P : Nat → Bool) (j : Nat) : Nat → List Oper → Bool
  | _, [] => false
  | i, o :: l => match o.guard with
    | some (k, _) => match Nat.beq k j with
      | true => match effOp o.op with
        | true => true
        | false => match P i with
          | true => true
          | false => effUnder P j (i + 1) l
      | false => effUnder P j (i + 1) l
    | none => effUnder P j (i + 1) l

/-- Also under guards under this guard. -/
def effDeep (ops : Array Oper) : Nat → Nat → Bool
  | 0, _ => false
  | n + 1, j => effUnder (effDeep ops n) j 0 ops.toList

/-- Guards at which ways part: under which there is more than reading. -/
def isSplit (ops : Array Oper) : Nat → Nat → Bool
  | 0, _ => false
  | n + 1, j => match effDeep ops 6 j with
    | true => true
    | false => match (ops[j]?).bind (·.guard) with
      | some (k, _) => isSplit ops n k
      | none => false

def opG (D : TI) (G : FuncId → Option Spec) (meth : MethT) (ops : Array Oper) (tm : List SV) (L : Nat → Option Blk) (m : Nat) (o : Oper) : Option Eff :=
  let ρ := St.ev ⟨tm, []⟩
  match o.guard with
  | none => opX D G meth ρ L m o.op
  | some (j, want) => ((ops[j]?).bind (·.dst)).bind fun d => (guardC want (tm.getD d .any)).bind fun c => match isSplit ops 20 j with
    | true => match c with
      | true => opX D G meth ρ L m o.op
      | false => some ⟨[], .opt false .bool false, [], []⟩
    | false => (opX D G meth ρ L m o.op).bind (Eff.under c)

/-- Are blocks' numbers old ones or the next ones. -/
def okH : Nat → List (Nat × Option Blk) → Bool
  | _, [] => true
  | n, u :: l => match Nat.blt u.1 n with
    | true => okH n l
    | false => match Nat.beq u.1 n with
      | true => okH (n + 1) l
      | false => false

def runOps (D : TI) (G : FuncId → Option Spec) (meth : MethT) (ops : Array Oper) : List Oper → Nat → List SV → List (Option Blk) → List Prop → List Rec → Option (List Prop × St × List Rec)
  | [], _, tm, hp, ps, rs => some (ps, ⟨tm, hp⟩, rs)
  | o :: l, i, tm, hp, ps, rs => (opG D G meth ops tm (hpF hp) hp.length o).bind fun e => match okH hp.length e.upd with
    | true => runOps D G meth ops l (i + 1) (putT tm o.dst e.v) (e.upd.foldl putH hp) (ps ++ e.pre) (rs ++ [⟨i, hp.length, e, (e.upd.foldl putH hp).length⟩])
    | false => none

/-- Must the earlier of two operations be done first. -/
def meets (xs ys : List Nat) : Bool := xs.any fun x => ys.elem x

def Rec.lite (r : Rec) : Nat × List Nat × List Nat := (r.i, r.e.upd.map (·.1), r.e.foot)

def clashL (ops : Array Oper) (a b : Nat × List Nat × List Nat) : Bool := match ops[a.1]?, ops[b.1]? with
  | some x, some y => !(x.apart ops y) || meets a.2.1 (b.2.1 ++ b.2.2) || meets b.2.1 a.2.2
  | _, _ => true

def clash (ops : Array Oper) (a b : Rec) : Bool := clashL ops a.lite b.lite

/-- The same check, as rows that are worked out once. -/
structure Row where
  i : Nat
  bf : Nat
  dst : Option Tmp
  looks : List Tmp
  upd : List Nat
  foot : List Nat

def hasN (x : Nat) : List Nat → Bool
  | [] => false
  | y :: l => match Nat.beq x y with
    | true => true
    | false => hasN x l
def meetsN : List Nat → List Nat → Bool
  | [], _ => false
  | x :: l, m => match hasN x m with
    | true => true
    | false => meetsN l m
def hasO (o : Option Tmp) (l : List Tmp) : Bool := match o with
  | some d => hasN d l
  | none => false
def sameO (a b : Option Tmp) : Bool := match a with
  | some d => (match b with
    | some e => Nat.beq d e
    | none => false)
  | none => false
def clashR (a b : Row) : Bool := hasO a.dst b.looks || (sameO a.dst b.dst || (hasO b.dst a.looks || (meetsN a.upd b.upd || (meetsN a.upd b.foot || meetsN b.upd a.foot))))

def pairsOk (b : Row) : List Row → Bool
  | [] => true
  | a :: l => match b.bf.testBit a.i with
    | true => pairsOk b l
    | false => match clashR a b with
      | true => false
      | false => pairsOk b l

def edgesOk (i : Nat) : List Edge → Bool
  | [] => true
  | e :: l => match Nat.blt e.on i with
    | true => edgesOk i l
    | false => match Region.binds .any e with
      | true => false
      | false => edgesOk i l

def allOk (ops : Array Oper) : Nat → List Row → List Oper → List Nat → List (Nat × List Nat × List Nat) → Bool
  | _, _, [], _, [] => true
  | i, acc, o :: l, bf :: bs, r :: rs => match Nat.beq r.1 i, edgesOk i o.after.toList, pairsOk ⟨i, bf, o.dst, o.looksAt ops, r.2.1, r.2.2⟩ acc with
    | true, true, true => allOk ops (i + 1) (⟨i, bf, o.dst, o.looksAt ops, r.2.1, r.2.2⟩ :: acc) l bs rs
    | _, _, _ => false
  | _, _, _, _, _ => false

def drawR (ops : Array Oper) (rs : List (Nat × List Nat × List Nat)) : Bool := allOk ops 0 [] ops.toList (CheckFast.beforeL ops.toList 0 []) rs

def drawOk (ops : Array Oper) (rs : List Rec) : Bool := drawR ops (rs.map Rec.lite)

/-- Something, as each of several things. -/
def altP {α : Type} (x : α) (k : α → Prop) : List α → Prop
  | [] => False
  | a :: l => (x = a → k a) ∧ (¬ x = a → altP x k l)

/-- What a map has, and what it answers where it has nothing. -/
def altsM (t : Ty) : Option Blk → List t.I
  | some ⟨_, _, .cons _ (.last V), xs⟩ => (xs.filterMap fun e => (AV.mk V e.2).as t) ++ [t.dflt]
  | _ => []

/-- With a name for the outcome (1), or parted by it (2), or as each thing that a map has (3). -/
def nameV (L : Nat → Option Blk) : Nat → Eff → (Eff → Prop) → Prop
  | 3, ⟨pre, .v t x, upd, [b]⟩, k => altP x (fun y => k ⟨pre, .v t y, upd, [b]⟩) (altsM t (L b))
  | 1, ⟨pre, .v .bool x, upd, foot⟩, k => ∀ b : Bool, x = b → k ⟨pre, .v .bool b, upd, foot⟩
  | 1, ⟨pre, .opt c .bool x, upd, foot⟩, k => ∀ b : Bool, x = b → k ⟨pre, .opt c .bool b, upd, foot⟩
  | 1, ⟨pre, .v (.int j) x, upd, foot⟩, k => ∀ n : Int, x = n → k ⟨pre, .v (.int j) n, upd, foot⟩
  | 1, ⟨pre, .opt c (.int j) x, upd, foot⟩, k => ∀ n : Int, x = n → k ⟨pre, .opt c (.int j) n, upd, foot⟩
  | 2, ⟨pre, .v .bool x, upd, foot⟩, k => cond x (k ⟨pre, .v .bool true, upd, foot⟩) (k ⟨pre, .v .bool false, upd, foot⟩)
  | 2, ⟨pre, .opt c .bool x, upd, foot⟩, k => cond x (k ⟨pre, .opt c .bool true, upd, foot⟩) (k ⟨pre, .opt c .bool false, upd, foot⟩)
  | _, e, k => k e

def runV (D : TI) (G : FuncId → Option Spec) (meth : MethT) (ops : Array Oper) (nm : Nat → Nat) (F : Prop) (K : List Prop → St → List Rec → Prop) : List Oper → Nat → List SV → List (Option Blk) → List Prop → List Rec → Prop
  | [], _, tm, hp, ps, rs => K ps ⟨tm, hp⟩ rs
  | o :: l, i, tm, hp, ps, rs => match opG D G meth ops tm (hpF hp) hp.length o with
    | none => F
    | some e => match okH hp.length e.upd with
      | true => nameV (hpF hp) (nm i) e fun e => runV D G meth ops nm F K l (i + 1) (putT tm o.dst e.v) (e.upd.foldl putH hp) (ps ++ e.pre) (rs ++ [⟨i, hp.length, e, (e.upd.foldl putH hp).length⟩])
      | false => F

/-- Is an operation another one's guard. -/
def isGuard (i : Nat) : List Oper → Bool
  | [] => false
  | o :: l => match o.guard with
    | some (j, _) => match Nat.beq j i with
      | true => true
      | false => isGuard i l
    | none => isGuard i l

/-- What is done with an operation's outcome. -/
def nameK (ops : Array Oper) (nm : List Nat) (i : Nat) : Nat := match isGuard i ops.toList with
  | true => match isSplit ops 20 i with
    | true => 2
    | false => 1
  | false => match hasN i nm with
    | true => 1
    | false => match hasN (i + 1000) nm with
      | true => 3
      | false => 0

/-! ### Loops -/

/-- What is told of a loop: what changes, as a function of some data. -/
structure Ann where
  X : Type
  keep : List Nat
  keepB : List Nat
  slots : X → List (Nat × SV)
  blks : X → List (Nat × Option Blk)
  pre : X → Prop
  μ : X → Nat

def setAll {α : Type} (l : List α) : List (Nat × α) → List α
  | [] => l
  | (i, x) :: u => setAll (l.set i x) u

def onlyT (ks : List Nat) : List SV → Nat → List SV
  | [], _ => []
  | s :: l, i => (match ks.elem i with | true => s | false => SV.any) :: onlyT ks l (i + 1)

def onlyB (ks : List Nat) : List (Option Blk) → Nat → List (Option Blk)
  | [], _ => []
  | s :: l, i => (match ks.elem i with | true => s | false => none) :: onlyB ks l (i + 1)

def Ann.st (A : Ann) (S : St) (x : A.X) : St :=
  ⟨setAll (onlyT A.keep S.tm 0) (A.slots x), (A.blks x).foldl putH (onlyB A.keepB S.hp 0)⟩

/-- What a state has: a number, a block's one element, a block's elements. -/
def St.i (S : St) (t : Nat) : Int := match S.tm.getD t .any with
  | .v (.int _) x => x
  | _ => 0

def St.x (S : St) (b : Nat) (t : Ty) : t.I := match S.at b with
  | some ⟨_, _, u, [x]⟩ => ((AV.mk u x).as t).getD t.dflt
  | _ => t.dflt

def St.xs (S : St) (b : Nat) (t : Ty) : List t.I := match S.at b with
  | some ⟨_, _, u, l⟩ => ((AV.mk (.arr 0 u) l).as (.arr 0 t)).getD []
  | _ => []

def St.val (S : St) (s : Nat) (t : Ty) : t.I := match S.tm.getD s .any with
  | .v u x => ((AV.mk u x).as t).getD t.dflt
  | _ => t.dflt

/-- What holds of data in a machine by itself. -/
def Ty.wf : (t : Ty) → t.I → List Prop
  | .int k, x => [k.min ≤ x, x ≤ k.max]
  | .str, x => [ByteArray.size x ≤ big]
  | .arr n t, l => [List.length l = n, ∀ y ∈ (l : List t.I), allP (t.wf y)]
  | .last a, x => a.wf x
  | .cons a r, x => a.wf x.1 ++ r.wf x.2
  | _, _ => []

def SV.wf : SV → List Prop
  | .v t x => t.wf x
  | _ => []

def Blk.wf (b : Blk) : List Prop := [∀ y ∈ b.xs, allP (b.t.wf y)]

def Ann.wf (A : Ann) (S : St) (x : A.X) : List Prop :=
  ((A.slots x).flatMap fun s => (S.tm.getD s.1 .any).wf) ++ ((A.blks x).flatMap fun b => match hpF S.hp b.1 with | some b => b.wf | none => [])

/-! ### States that say less -/

def zipW {α β γ : Type} (f : α → β → List γ) : List α → List β → List γ
  | a :: l, b :: m => f a b ++ zipW f l m
  | _, _ => []

def matchP : Ref → Ref → List (Nat × Nat)
  | .ptr b _ _, .ptr b' _ _ => [(b, b')]
  | .slice b _ _ _ _, .slice b' _ _ _ _ => [(b, b')]
  | .map b, .map b' => [(b, b')]
  | _, _ => []

def matchR : Ref → Ref → List (Nat × Nat)
  | .func _ a c, .func _ a' c' => zipW matchP a a' ++ zipW matchP c c'
  | .iface _ v, .iface _ v' => matchP v v'
  | x, y => matchP x y

def matchT : (t : Ty) → t.I → t.I → List (Nat × Nat)
  | .ref _, x, y => matchR x y
  | .last a, x, y => matchT a x y
  | .cons a r, x, y => matchT a x.1 y.1 ++ matchT r x.2 y.2
  | .unit, _, _ => []
  | .arr .., _, _ => []
  | .int _, _, _ => []
  | .bool, _, _ => []
  | .str, _, _ => []

def matchAV (a b : AV) : List (Nat × Nat) := if h : b.t = a.t then matchT a.t a.x (h ▸ b.x) else []

def matchSV : SV → SV → List (Nat × Nat)
  | .v t x, .v u y => matchAV ⟨t, x⟩ ⟨u, y⟩
  | .tup l, .tup m => zipW matchAV l m
  | _, _ => []

/-- What the blocks that were matched come to. -/
def matchH (hp' hp : List (Option Blk)) : List (Nat × Nat) → List (Nat × Nat)
  | [] => []
  | (i, j) :: l => (match hp'[i]?, hp[j]? with
    | some (some b), some (some c) => match b.t.noRef with
      | true => []
      | false => match b.one, c.one with
        | true, true => match b.xs, c.xs with
          | [x], [y] => matchAV ⟨b.t, x⟩ ⟨c.t, y⟩
          | _, _ => []
        | _, _ => []
    | _, _ => []) ++ matchH hp' hp l

def upto : Nat → List Nat
  | 0 => []
  | n + 1 => n :: upto n

def matchAll (k : Nat) (S' S : St) : List (Nat × Nat) :=
  let m1 := zipW matchSV S'.tm S.tm ++ (upto k).map fun i => (i, i)
  let m2 := matchH S'.hp S.hp m1
  m1 ++ (m2 ++ matchH S'.hp S.hp m2)

def lookupD (l : List (Nat × Nat)) (i d : Nat) : Nat := match l with
  | [] => d
  | (a, b) :: l => match a == i with
    | true => b
    | false => lookupD l i d

def eqL : List Nat → List Nat → Option (List Prop)
  | [], [] => some []
  | a :: l, b :: m => (eqL l m).map fun ps => (b = a) :: ps
  | _, _ => none

/-- A reference that is to be (numbered by π), and one that is. -/
def eqP (π : Nat → Nat) : Ref → Ref → Option (List Prop)
  | .ptr b t p, .ptr b' t' p' => match π b == b', decide (t = t') with
    | true, true => eqL p p'
    | _, _ => none
  | _, _ => none

def eqPs (π : Nat → Nat) : List Ref → List Ref → Option (List Prop)
  | [], [] => some []
  | a :: l, b :: m => (eqP π a b).bind fun p => (eqPs π l m).map fun q => p ++ q
  | _, _ => none

/-- A reference that is to be (numbered by π), one that is; blocks of which 'vb' holds need not be there: an empty one stands for nil. -/
def eqR (π : Nat → Nat) (vb : Nat → Bool) : Ref → Ref → Option (List Prop)
  | .nilptr, .nilptr => some []
  | .nilslice, .nilslice => some []
  | .nilFunc, .nilFunc => some []
  | .nilIface, .nilIface => some []
  | .nilmap, .nilmap => some []
  | .ptr b t p, .ptr b' t' p' => match π b == b', decide (t = t') with
    | true, true => eqL p p'
    | _, _ => none
  | .slice b _ [] 0 k, .nilslice => match vb b with
    | true => some [k = 0]
    | false => none
  | .slice b t p o n, .slice b' t' p' o' n' => match π b == b', decide (t = t') with
    | true, true => (eqL p p').map fun ps => ps ++ [o' = o, n' = n]
    | _, _ => none
  | .map b, .map b' => match π b == b' with
    | true => some []
    | false => none
  | .func fn a c, .func fn' a' c' => match decide (fn = fn') with
    | true => (eqPs π a a').bind fun p => (eqPs π c c').map fun q => p ++ q
    | false => none
  | .iface T v, .iface T' v' => match decide (T = T') with
    | true => match v.ids with
      | [] => some [v' = v]
      | _ => eqP π v v'
    | false => none
  | _, _ => none

def eqT (π : Nat → Nat) (vb : Nat → Bool) : (t : Ty) → t.I → t.I → Option (List Prop)
  | .ref _, x, y => eqR π vb x y
  | .last a, x, y => eqT π vb a x y
  | .cons a r, x, y => (eqT π vb a x.1 y.1).bind fun p => (eqT π vb r x.2 y.2).map fun q => p ++ q
  | .unit, _, _ => some []
  | .arr _ t, x, y => match t.noRef with
    | true => some [y = x]
    | false => none
  | .int _, x, y => some [y = x]
  | .bool, x, y => some [y = x]
  | .str, x, y => some [y = x]

def eqA (π : Nat → Nat) (vb : Nat → Bool) (a b : AV) : Option (List Prop) := if h : b.t = a.t then eqT π vb a.t a.x (h ▸ b.x) else none

def eqAs (π : Nat → Nat) (vb : Nat → Bool) : List AV → List AV → Option (List Prop)
  | [], [] => some []
  | a :: l, b :: m => (eqA π vb a b).bind fun p => (eqAs π vb l m).map fun q => p ++ q
  | _, _ => none

/-- A slot that is to be, one that is. -/
def eqS (π : Nat → Nat) (vb : Nat → Bool) : SV → SV → Option (List Prop)
  | .any, _ => some []
  | .v t x, .v u y => eqA π vb ⟨t, x⟩ ⟨u, y⟩
  | .tup l, .tup m => eqAs π vb l m
  | _, _ => none

def eqSs (π : Nat → Nat) (vb : Nat → Bool) : List SV → List SV → Option (List Prop)
  | [], [] => some []
  | a :: l, b :: m => (eqS π vb a b).bind fun p => (eqSs π vb l m).map fun q => p ++ q
  | _, _ => none

def eqXs (π : Nat → Nat) (vb : Nat → Bool) (t : Ty) : List t.I → List t.I → Option (List Prop)
  | [], [] => some []
  | x :: l, y :: m => (eqT π vb t x y).bind fun p => (eqXs π vb t l m).map fun q => p ++ q
  | _, _ => none

/-- A map that is to be, one that is. -/
def eqM (π : Nat → Nat) (vb : Nat → Bool) (b c : Blk) : Option (List Prop) := ((AV.mk (.arr 0 c.t) c.xs).as (.arr 0 b.t)).bind fun ys => match b.t.noRef with
  | true => some [ys = b.xs]
  | false => eqXs π vb b.t b.xs ys

/-- A row that is to be, one that is. -/
def eqC (π : Nat → Nat) (vb : Nat → Bool) (b c : Blk) : Option (List Prop) := (match b.one, c.one with
    | true, true => match b.xs, c.xs with
      | [x], [y] => eqA π vb ⟨b.t, x⟩ ⟨c.t, y⟩
      | _, _ => none
    | false, false => match b.t.noRef with
      | true => ((AV.mk (.arr 0 c.t) c.xs).as (.arr 0 b.t)).map fun ys => [ys = b.xs]
      | false => none
    | _, _ => none).map fun ps => ps ++ [b.ro = c.ro]

/-- A block that is to be, one that is. -/
def eqB (π : Nat → Nat) (vb : Nat → Bool) (b c : Blk) : Option (List Prop) := match b.isMap, c.isMap with
  | true, true => eqM π vb b c
  | true, false => none
  | false, _ => eqC π vb b c

def eqH (π : Nat → Nat) (vb : Nat → Bool) (hp : List (Option Blk)) : List (Option Blk) → Nat → Option (List Prop)
  | [], _ => some []
  | none :: l, i => eqH π vb hp l (i + 1)
  | some b :: l, i => match hp[π i]? with
    | some (some c) => (eqB π vb b c).bind fun p => (eqH π vb hp l (i + 1)).map fun q => p ++ q
    | some none => none
    | none => match b.ro || b.one, b.t.noRef with
      | false, true => (eqH π vb hp l (i + 1)).map fun q => (b.xs = []) :: q
      | _, _ => none

def distinct : List Nat → Bool
  | [] => true
  | x :: l => !l.elem x && distinct l

/-- How blocks are renamed: k of them keep their numbers. -/
def renF (k n n' : Nat) (ms : List (Nat × Nat)) (i : Nat) : Nat := match Nat.blt i k with
  | true => i
  | false => match Nat.blt i n' with
    | true => lookupD ms i (n + i)
    | false => n + i

def virtF (π : Nat → Nat) (n n' i : Nat) : Bool := Nat.blt i n' && Nat.ble n (π i)

/-- The blocks that are there. -/
def someIdx : List (Option Blk) → Nat → List Nat
  | [], _ => []
  | none :: l, i => someIdx l (i + 1)
  | some _ :: l, i => i :: someIdx l (i + 1)

/-- A number that is new may stand for an old block, if that may be written. -/
def aliasOk (hp : List (Option Blk)) (k : Nat) : List (Nat × Nat) → Bool
  | [] => true
  | (i, j) :: l => match Nat.blt i k with
    | true => aliasOk hp k l
    | false => match Nat.blt j k with
      | false => aliasOk hp k l
      | true => match hp[j]? with
        | some (some c) => match c.ro with
          | false => aliasOk hp k l
          | true => false
        | _ => false

/-- S' (what is to be) says no more than S (what is): under which conditions. 'k': so many blocks keep their numbers. -/
def leS (k : Nat) (S' S : St) : Option (List Prop) :=
  let π := renF k S.hp.length S'.hp.length (matchAll k S' S)
  match distinct ((someIdx S'.hp 0).map π), aliasOk S.hp k ((upto S'.hp.length).map fun i => (i, π i)), Nat.ble k S'.hp.length, Nat.ble k S.hp.length with
  | true, true, true, true => (eqSs π (virtF π S.hp.length S'.hp.length) S'.tm S.tm).bind fun p => (eqH π (virtF π S.hp.length S'.hp.length) S.hp S'.hp 0).map fun q => p ++ q
  | _, _, _, _ => none

def leP (k : Nat) (S' S : St) : Prop := match leS k S' S with
  | some ps => allP ps
  | none => False

def andP (ps : List Prop) (q : Prop) : Prop := match ps with
  | [] => q
  | ps => allP ps ∧ q

def impP (ps : List Prop) (q : Prop) : Prop := match ps with
  | [] => q
  | ps => allP ps → q

/-! ### Code -/

structure Ctx where
  P : Program
  D : TI
  G : FuncId → Option Spec
  meth : MethT
  /-- operations whose outcome is named, beside guards: by region -/
  nm : Nat → List Nat := fun _ => []

def vc (C : Ctx) (A : Nat → St → Option Ann) : Code → St → (Ex → St → Prop) → Prop
  | .skip, S, Q => Q .normal S
  | .region id ops draw, S, Q => runV C.D C.G C.meth ops (fun i => nameK ops (C.nm id) i) (VX C.P (.region id ops draw) S Q)
      (fun ps S' rs => match draw with
        | false => andP ps (Q .normal S')
        | true => match drawOk ops rs with
          | true => andP ps (Q .normal S')
          | false => VX C.P (.region id ops true) S Q) ops.toList 0 S.tm S.hp [] []
  | .seq a b, S, Q => vc C A a S fun e S' => match e with
    | .normal => vc C A b S' Q
    | e => Q e S'
  | .cond c a b, S, Q => match S.ev c with
    | .v .bool x => cond x (vc C A a S Q) (vc C A b S Q)
    | _ => False
  | .block id (.loop c), S, Q => match A id S with
    | some ann => ∃ x, (leP S.hp.length (ann.st S x) S ∧ ann.pre x) ∧ ∀ x, ann.pre x → impP (ann.wf (ann.st S x) x)
        (vc C A c (ann.st S x) fun e S' => match e with
          | .normal => ∃ y, leP S.hp.length (ann.st S y) S' ∧ ann.pre y ∧ ann.μ y < ann.μ x
          | .exit j => if j = id then Q .normal S' else Q (.exit j) S'
          | e => Q e S')
    | none => VX C.P (.block id (.loop c)) S Q
  | .block id c, S, Q => vc C A c S fun e S' => match e with
    | .exit j => if j = id then Q .normal S' else Q (.exit j) S'
    | e => Q e S'
  | .exit id, S, Q => Q (.exit id) S
  | .ret, S, Q => Q .ret S
  | .label _, S, Q => Q .normal S
  | c, S, Q => VX C.P c S Q

def resE (D : TI) (S : St) : ResultVar → Option (List Prop × AV)
  | .tmp t => (S.tm.getD t .any).val
  | .cell t T => (svR (S.tm.getD t .any)).bind fun (p, r) => (loadE (hpF S.hp) (D.ty T) r).bind fun e => match e.v with
    | .v t x => some (p ++ e.pre, ⟨t, x⟩)
    | _ => none

def resEs (D : TI) (S : St) : List ResultVar → Option (List Prop × List AV)
  | [] => some ([], [])
  | r :: l => (resE D S r).bind fun (p, a) => (resEs D S l).map fun (q, as) => (p ++ q, a :: as)

def outSt (ins : List Blk) (out : COut) : St :=
  ⟨[out.v], outHp ins out⟩

def retP (C : Ctx) (fn : Func) (ins : List Blk) (out : COut) (S : St) : Prop := match resEs C.D S fn.results.toList with
  | some (ps, [a]) => andP ps (leP ins.length (outSt ins out) ⟨[.v a.t a.x], S.hp⟩)
  | some (ps, as) => andP ps (leP ins.length (outSt ins out) ⟨[.tup as], S.hp⟩)
  | none => False

def vcFun (C : Ctx) (A : Nat → St → Option Ann) (fn : Func) (args : List AV) (ins : List Blk) (out : COut) : Prop := match fn.body with
  | some c => vc C A c ⟨(args.map fun a => SV.v a.t a.x) ++ List.replicate (fn.ntmps - args.length) (.tup []), ins.map some⟩ fun e S => match e with
    | .exit _ => False
    | _ => retP C fn ins out S
  | none => False

end Go.SL

/- S-logic, part 4: laws of the relations. -/
namespace Go.SL
open Go
variable [GTab]

/-! ### Renaming -/

def EM (E : Env) (f : Nat → Nat) (E' : Env) : Prop := ∀ b, (E b).st ≠ .dead → E' (f b) = E b

omit [GTab] in
theorem EM.id {E E' : Env} (h : ∀ i, (E i).st ≠ .dead → E' i = E i) : EM E (fun i => i) E' := h

omit [GTab] in
mutual
theorem VR.ren {E E' : Env} {f : Nat → Nat} (h : EM E f E') : ∀ (r : Ref) (v : Value), VR E r v → VR E' (r.ren f) v
  | .nilptr, v, H => by simpa [Ref.ren, VR] using H
  | .nilslice, v, H => by simpa [Ref.ren, VR] using H
  | .nilFunc, v, H => by simpa [Ref.ren, VR] using H
  | .nilIface, v, H => by simpa [Ref.ren, VR] using H
  | .nilmap, v, H => by simpa [Ref.ren, VR] using H
  | .ptr b t p, v, H => by
    simp only [Ref.ren, VR] at *
    have := h b (by rw [H.1]; decide)
    rw [this]; exact H
  | .sub b t p o n, v, H => by
    simp only [Ref.ren, VR] at *
    have := h b (by rw [H.1]; decide)
    rw [this]; exact H
  | .slice b t p o n, v, H => by
    simp only [Ref.ren, VR] at *
    have := h b (by rcases H with H | H <;> (rw [H.1]; decide))
    rw [this]; exact H
  | .func fn a c, v, H => by
    simp only [Ref.ren, VR] at *
    obtain ⟨f', c', e, h1, h2⟩ := H
    exact ⟨f', c', e, VRs.ren h a _ h1, VRs.ren h c _ h2⟩
  | .iface T r, v, H => by
    simp only [Ref.ren, VR] at *
    obtain ⟨x, e, h1⟩ := H
    exact ⟨x, e, VR.ren h r _ h1⟩
  | .map b, v, H => by
    simp only [Ref.ren, VR] at *
    have := h b (by rw [H.1]; decide)
    rw [this]; exact H
  | .int k x, v, H => by simpa [Ref.ren, VR] using H
  | .bool b, v, H => by simpa [Ref.ren, VR] using H
  | .str s, v, H => by simpa [Ref.ren, VR] using H
  | .agg l, v, H => by
    simp only [Ref.ren, VR] at *
    obtain ⟨cs, e, h1⟩ := H
    exact ⟨cs, e, VRs.ren h l _ h1⟩
theorem VRs.ren {E E' : Env} {f : Nat → Nat} (h : EM E f E') : ∀ (l : List Ref) (vs : List Value), VRs E l vs → VRs E' (Ref.renL f l) vs
  | [], vs, H => by simpa [Ref.renL, VRs] using H
  | r :: l, vs, H => by
    simp only [Ref.renL, VRs] at *
    obtain ⟨v, vs', e, h1, h2⟩ := H
    exact ⟨v, vs', e, VR.ren h r _ h1, VRs.ren h l _ h2⟩
end

omit [GTab] in
mutual
theorem Ref.ren_id : ∀ r : Ref, r.ren (fun i => i) = r
  | .nilptr | .nilslice | .nilFunc | .nilIface | .nilmap | .ptr .. | .sub .. | .slice .. | .map _ | .int .. | .bool _ | .str _ => by simp [Ref.ren]
  | .func fn a c => by simp [Ref.ren, Ref.renL_id a, Ref.renL_id c]
  | .iface T r => by simp [Ref.ren, Ref.ren_id r]
  | .agg l => by simp [Ref.ren, Ref.renL_id l]
theorem Ref.renL_id : ∀ l : List Ref, Ref.renL (fun i => i) l = l
  | [] => by simp [Ref.renL]
  | r :: l => by simp [Ref.renL, Ref.ren_id r, Ref.renL_id l]
end

omit [GTab] in
theorem VR.mono {E E' : Env} (h : ∀ i, (E i).st ≠ .dead → E' i = E i) {r : Ref} {v : Value} (H : VR E r v) : VR E' r v := by
  have := VR.ren (EM.id h) r v H
  rwa [Ref.ren_id] at this

omit [GTab] in
theorem VRs.mono {E E' : Env} (h : ∀ i, (E i).st ≠ .dead → E' i = E i) {r : List Ref} {v : List Value} (H : VRs E r v) : VRs E' r v := by
  have := VRs.ren (EM.id h) r v H
  rwa [Ref.renL_id] at this

omit [GTab] in
theorem Ref.ren_isAgg (f : Nat → Nat) (r : Ref) : (r.ren f).isAgg = r.isAgg := by cases r <;> simp [Ref.ren, Ref.isAgg]

omit [GTab] in
theorem LR.imp {α : Type} {R R' : α → List Value → Prop} {f : α → α} (h : ∀ x cs, R x cs → R' (f x) cs) : ∀ (l : List α) (cs : List Value), LR R l cs → LR R' (l.map f) cs
  | [], cs, H => H
  | x :: l, cs, H => by
    obtain ⟨c1, c2, e, h1, h2⟩ := H
    exact ⟨c1, c2, e, h x c1 h1, LR.imp h l c2 h2⟩

omit [GTab] in
theorem LR.imp' {α : Type} {R R' : α → List Value → Prop} (h : ∀ x cs, R x cs → R' x cs) (l : List α) (cs : List Value) (H : LR R l cs) : LR R' l cs := by
  have := LR.imp (R := R) (R' := R') (f := fun x => x) h l cs H
  simpa using this

omit [GTab] in
theorem CR.noRef {E E' : Env} : ∀ (t : Ty) (x : t.I) (cs : List Value), t.noRef = true → CR E t x cs → CR E' t x cs
  | .int k, x, cs, _, H => H
  | .bool, x, cs, _, H => H
  | .str, x, cs, _, H => H
  | .ref k, x, cs, h, H => by simp [Ty.noRef] at h
  | .unit, x, cs, _, H => H
  | .arr n t, l, cs, h, H => ⟨H.1, LR.imp' (fun x c hx => CR.noRef t x c h hx) l cs H.2⟩
  | .last a, x, cs, h, H => CR.noRef a x cs h H
  | .cons a r, x, cs, h, H => by
    simp only [Ty.noRef, Bool.and_eq_true] at h
    obtain ⟨c1, c2, e, h1, h2⟩ := H
    exact ⟨c1, c2, e, CR.noRef a x.1 c1 h.1 h1, CR.noRef r x.2 c2 h.2 h2⟩

omit [GTab] in
theorem CR.ren {E E' : Env} {f : Nat → Nat} (h : EM E f E') : ∀ (t : Ty) (x : t.I) (cs : List Value), CR E t x cs → CR E' t (t.ren f x) cs
  | .int k, x, cs, H => H
  | .bool, x, cs, H => H
  | .str, x, cs, H => H
  | .ref k, x, cs, H => by
    obtain ⟨v, e, h1, h2⟩ := H
    exact ⟨v, e, VR.ren h x v h1, by rw [← h2]; exact Ref.ren_isAgg f x⟩
  | .unit, x, cs, H => H
  | .arr n t, l, cs, H => by
    simp only [Ty.ren]
    split
    · rename_i hn
      exact ⟨H.1, LR.imp' (fun x c hx => CR.noRef t x c hn hx) l cs H.2⟩
    · exact ⟨by rw [List.length_map]; exact H.1, LR.imp (fun x c hx => CR.ren h t x c hx) l cs H.2⟩
  | .last a, x, cs, H => CR.ren h a x cs H
  | .cons a r, x, cs, H => by
    obtain ⟨c1, c2, e, h1, h2⟩ := H
    exact ⟨c1, c2, e, CR.ren h a x.1 c1 h1, CR.ren h r x.2 c2 h2⟩

omit [GTab] in
theorem Ty.ren_id : ∀ (t : Ty) (x : t.I), t.ren (fun i => i) x = x
  | .int _, x => rfl
  | .bool, x => rfl
  | .str, x => rfl
  | .ref _, x => Ref.ren_id x
  | .unit, x => rfl
  | .arr n t, l => by
    simp only [Ty.ren]
    split
    · rfl
    · have : (t.ren (fun i => i) ·) = fun x => x := funext fun x => Ty.ren_id t x
      rw [this]; exact List.map_id' l
  | .last a, x => Ty.ren_id a x
  | .cons a r, x => by
    show (a.ren _ x.1, r.ren _ x.2) = x
    rw [Ty.ren_id a, Ty.ren_id r]

omit [GTab] in
theorem CR.mono {E E' : Env} (h : ∀ i, (E i).st ≠ .dead → E' i = E i) {t : Ty} {x : t.I} {cs : List Value} (H : CR E t x cs) : CR E' t x cs := by
  have := CR.ren (EM.id h) t x cs H
  rwa [Ty.ren_id] at this

omit [GTab] in
theorem AR.ren {E E' : Env} {f : Nat → Nat} (h : EM E f E') (a : AV) (v : Value) (H : AR E a v) : AR E' (a.ren f) v := by
  unfold AR at *
  show match a.t.agg with | true => _ | false => _
  split at H
  · rename_i hh
    obtain ⟨cs, e, hc⟩ := H
    try simp only [hh]
    exact ⟨cs, e, CR.ren h _ _ _ hc⟩
  · rename_i hh
    try simp only [hh]
    exact CR.ren h _ _ _ H

omit [GTab] in
theorem AV.ren_id (a : AV) : a.ren (fun i => i) = a := by
  unfold AV.ren; rw [Ty.ren_id]

omit [GTab] in
theorem AR.mono {E E' : Env} (h : ∀ i, (E i).st ≠ .dead → E' i = E i) {a : AV} {v : Value} (H : AR E a v) : AR E' a v := by
  have := AR.ren (EM.id h) a v H
  rwa [AV.ren_id] at this

omit [GTab] in
theorem ARs.ren {E E' : Env} {f : Nat → Nat} (h : EM E f E') : ∀ (l : List AV) (vs : List Value), ARs E l vs → ARs E' (l.map (AV.ren f)) vs
  | [], vs, H => H
  | a :: l, vs, H => by
    obtain ⟨v, vs', e, h1, h2⟩ := H
    exact ⟨v, vs', e, AR.ren h a v h1, ARs.ren h l vs' h2⟩

omit [GTab] in
theorem ARs.mono {E E' : Env} (h : ∀ i, (E i).st ≠ .dead → E' i = E i) : ∀ {l : List AV} {vs : List Value}, ARs E l vs → ARs E' l vs
  | [], vs, H => H
  | a :: l, vs, H => by
    obtain ⟨v, vs', e, h1, h2⟩ := H
    exact ⟨v, vs', e, AR.mono h h1, ARs.mono h h2⟩

omit [GTab] in
theorem SR.ren {E E' : Env} {f : Nat → Nat} (h : EM E f E') : ∀ (s : SV) (v : Value), SR E s v → SR E' (s.ren f) v
  | .any, v, _ => trivial
  | .v t x, v, H => AR.ren h _ v H
  | .opt c t x, v, H => ⟨fun hc => AR.ren h _ v (H.1 hc), H.2⟩
  | .tup l, v, H => by
    obtain ⟨vs, e, h1⟩ := H
    exact ⟨vs, e, ARs.ren h l _ h1⟩
  | .gel _ _, v, H => H

omit [GTab] in
theorem SR.mono {E E' : Env} (h : ∀ i, (E i).st ≠ .dead → E' i = E i) : ∀ {s : SV} {v : Value}, SR E s v → SR E' s v
  | .any, v, _ => trivial
  | .v t x, v, H => AR.mono h (a := ⟨t, x⟩) H
  | .opt c t x, v, H => ⟨fun hc => AR.mono h (a := ⟨t, x⟩) (H.1 hc), H.2⟩
  | .tup l, v, H => by
    obtain ⟨vs, e, h1⟩ := H
    exact ⟨vs, e, ARs.mono h h1⟩
  | .gel _ _, v, H => H

omit [GTab] in
theorem LF.imp {α α' β : Type} {R : α → β → Prop} {R' : α' → β → Prop} {g : α → α'} (h : ∀ x c, R x c → R' (g x) c) : ∀ (l : List α) (m : List β), LF R l m → LF R' (l.map g) m
  | [], _, e => e
  | x :: l, m, e => by
    obtain ⟨y, m', rfl, h1, h2⟩ := e
    exact ⟨y, m', rfl, h x y h1, LF.imp h l m' h2⟩
omit [GTab] in
theorem MapE.ren {E E' : Env} {f : Nat → Nat} (h : EM E f E') : ∀ (t : Ty) (x : t.I) (e : MapEntry), MapE E t x e → MapE E' t (t.ren f x) e := by
  intro t x e H
  match t, x, H with
  | .cons k (.last v), x, H => exact ⟨H.1, AR.ren h ⟨k, x.1⟩ _ H.2.1, AR.ren h ⟨v, x.2⟩ _ H.2.2⟩
omit [GTab] in
theorem AR.noRef {E E' : Env} {a : AV} {v : Value} (hn : a.t.noRef = true) (H : AR E a v) : AR E' a v := by
  unfold AR at *
  split at H
  · obtain ⟨cs, e, h⟩ := H
    exact ⟨cs, e, CR.noRef _ _ _ hn h⟩
  · exact CR.noRef _ _ _ hn H
omit [GTab] in
theorem MapE.noRef {E E' : Env} : ∀ (t : Ty) (x : t.I) (e : MapEntry), t.noRef = true → MapE E t x e → MapE E' t x e := by
  intro t x e hn H
  match t, x, hn, H with
  | .cons k (.last v), x, hn, H =>
    simp only [Ty.noRef, Bool.and_eq_true] at hn
    exact ⟨H.1, AR.noRef (a := ⟨k, x.1⟩) hn.1 H.2.1, AR.noRef (a := ⟨v, x.2⟩) hn.2 H.2.2⟩
omit [GTab] in
theorem MapE.blkRen {E E' : Env} {f : Nat → Nat} (h : EM E f E') (b : Blk) (l : List MapEntry) (H : LF (MapE E b.t) b.xs l) : LF (MapE E' (b.ren f).t) (b.ren f).xs l := by
  unfold Blk.ren
  split
  · rename_i hn
    have := LF.imp (g := id) (fun x c hx => MapE.noRef (E' := E') b.t x c hn hx) _ _ H
    rwa [List.map_id] at this
  · exact LF.imp (fun x c hx => MapE.ren h b.t x c hx) _ _ H

omit [GTab] in
theorem BR.ren {E E' : Env} {f : Nat → Nat} (h : EM E f E') {e : Loc} {b : Blk} {w : World} (H : BR e E b w) : BR e E' (b.ren f) w := by
  unfold BR at *
  have hro : (b.ren f).ro = b.ro := by unfold Blk.ren; split <;> rfl
  have hm : (b.ren f).isMap = b.isMap := by unfold Blk.ren; split <;> rfl
  rw [hm]
  split at H
  · exact H
  · unfold Blk.ren; split
    · exact H
    · simp [H]
  · cases hmm : b.isMap with
    | true =>
      rw [hmm] at H
      obtain ⟨h0, es, clk, h1, h2⟩ := H
      exact ⟨h0, es, clk, h1, MapE.blkRen h b _ h2⟩
    | false =>
    rw [hmm] at H
    obtain ⟨cs, T, fr, h1, h2, ⟨front, cells, rest, h3, h4, h5⟩, h6⟩ := H
    refine ⟨cs, T, fr, h1, h2, ⟨front, cells, rest, h3, h4, ?_⟩, hro ▸ h6⟩
    unfold Blk.ren
    split
    · rename_i hn
      exact LR.imp' (fun x c hx => CR.noRef _ x c hn hx) _ _ h5
    · exact LR.imp (fun x c hx => CR.ren h _ x c hx) _ _ h5

omit [GTab] in
theorem Blk.ren_id (b : Blk) : b.ren (fun i => i) = b := by
  unfold Blk.ren; split
  · rfl
  · have : (b.t.ren (fun i => i) ·) = fun x => x := funext fun x => Ty.ren_id b.t x
    rw [this, List.map_id']

omit [GTab] in
theorem BR.mono {E E' : Env} (h : ∀ i, (E i).st ≠ .dead → E' i = E i) {e : Loc} {b : Blk} {w : World} (H : BR e E b w) : BR e E' b w := by
  have := BR.ren (EM.id h) H
  rwa [Blk.ren_id] at this

omit [GTab] in
theorem BR.world {E : Env} {e : Loc} {b : Blk} {w w' : World} (h : e.st = .real → w'.heap[e.blk]? = w.heap[e.blk]?) (H : BR e E b w) : BR e E b w' := by
  unfold BR at *
  split at H
  · exact H
  · exact H
  · rename_i hr
    unfold MR BC at *
    rw [h hr]; exact H

omit [GTab] in
theorem BR.notDead {E : Env} {e : Loc} {b : Blk} {w : World} (H : BR e E b w) : e.st ≠ .dead := by
  intro h; unfold BR at H; rw [h] at H; exact H

omit [GTab] in
theorem Fr.refl (E : Env) (w : World) : Fr E w E w where
  env := fun _ _ => rfl
  new := fun i h1 h2 => by rw [h1] at h2; cases h2
  size := Nat.le_refl _
  keep := fun _ _ _ => rfl
  os := rfl
  tape := rfl
  output := rfl

omit [GTab] in
theorem Fr.trans {E E' E'' : Env} {w w' w'' : World} (h : Fr E w E' w') (k : Fr E' w' E'' w'') : Fr E w E'' w'' where
  env := fun i hi => by
    have := h.env i hi
    rw [k.env i (by rw [this]; exact hi), this]
  new := fun i h1 h2 => by
    by_cases hd : (E' i).st = .dead
    · rcases k.new i hd h2 with hk | ⟨j, hj, hw, hb⟩
      · exact .inl (Nat.le_trans h.size hk)
      · by_cases hj0 : (E j).st = .dead
        · rcases h.new j hj0 hj with hk | ⟨l, hl, hlw, hlb⟩
          · exact .inl (hb ▸ hk)
          · exact .inr ⟨l, hl, hlw, hb.trans hlb⟩
        · have := h.env j hj0
          exact .inr ⟨j, this ▸ hj, this ▸ hw, hb.trans (by rw [this])⟩
    · have e := k.env i hd
      rw [e] at h2 ⊢
      exact h.new i h1 h2
  size := Nat.le_trans h.size k.size
  keep := fun b hb hj => by
    rw [k.keep b (Nat.lt_of_lt_of_le hb h.size) ?_, h.keep b hb hj]
    intro j hr hw e
    by_cases hj0 : (E j).st = .dead
    · rcases h.new j hj0 hr with hk | ⟨l, hl, hlw, hlb⟩
      · omega
      · exact hj l hl hlw (hlb ▸ e)
    · have := h.env j hj0
      exact hj j (this ▸ hr) (this ▸ hw) (this ▸ e)
  os := k.os.trans h.os
  tape := k.tape.trans h.tape
  output := k.output.trans h.output

end Go.SL

/- S-logic, part 5: paths. -/
namespace Go.SL
open Go
variable [GTab]

omit [GTab] in
theorem allP_iff : ∀ l : List Prop, allP l ↔ ∀ p ∈ l, p
  | [] => ⟨fun _ p hp => (by cases hp), fun _ => trivial⟩
  | [p] => ⟨fun h q hq => by rw [List.mem_singleton] at hq; subst hq; exact h, fun h => h p (List.mem_singleton.2 rfl)⟩
  | p :: q :: l => by
    have := allP_iff (q :: l)
    simp only [allP, this]
    constructor
    · rintro ⟨h1, h2⟩ r hr
      rcases List.mem_cons.1 hr with e | e
      · subst e; exact h1
      · exact h2 r e
    · intro h
      exact ⟨h p (List.mem_cons_self ..), fun r hr => h r (List.mem_cons_of_mem _ hr)⟩

omit [GTab] in
theorem allP_append {l m : List Prop} : allP (l ++ m) ↔ allP l ∧ allP m := by
  simp only [allP_iff, List.mem_append]
  exact ⟨fun h => ⟨fun p hp => h p (.inl hp), fun p hp => h p (.inr hp)⟩, fun h p hp => hp.elim (h.1 p) (h.2 p)⟩

omit [GTab] in
theorem allP_cons {p : Prop} {l : List Prop} : allP (p :: l) ↔ p ∧ allP l := by
  simp only [allP_iff, List.mem_cons]
  exact ⟨fun h => ⟨h p (.inl rfl), fun q hq => h q (.inr hq)⟩, fun h q hq => hq.elim (fun e => e ▸ h.1) (h.2 q)⟩

omit [GTab] in
theorem LR.len {α : Type} {R : α → List Value → Prop} {s : Nat} (h : ∀ x cs, R x cs → cs.length = s) : ∀ (l : List α) (cs : List Value), LR R l cs → cs.length = l.length * s
  | [], cs, H => by simp only [LR] at H; subst H; simp
  | x :: l, cs, H => by
    obtain ⟨c1, c2, e, h1, h2⟩ := H
    rw [e, List.length_append, h x c1 h1, LR.len h l c2 h2, List.length_cons, Nat.succ_mul, Nat.add_comm]

omit [GTab] in
theorem CR.len {E : Env} : ∀ (t : Ty) (x : t.I) (cs : List Value), CR E t x cs → cs.length = t.size
  | .int k, x, cs, H => by rw [H.1]; rfl
  | .bool, x, cs, H => by simp only [CR] at H; rw [H]; rfl
  | .str, x, cs, H => by rw [H.1]; rfl
  | .ref k, x, cs, H => by obtain ⟨v, e, _⟩ := H; rw [e]; rfl
  | .unit, x, cs, H => by simp only [CR] at H; rw [H]; rfl
  | .arr n t, l, cs, H => by
    rw [LR.len (fun x c hx => CR.len t x c hx) l cs H.2, H.1]; rfl
  | .last a, x, cs, H => CR.len a x cs H
  | .cons a r, x, cs, H => by
    obtain ⟨c1, c2, e, h1, h2⟩ := H
    rw [e, List.length_append, CR.len a x.1 c1 h1, CR.len r x.2 c2 h2]; rfl

omit [GTab] in
theorem LR.at {α : Type} {R : α → List Value → Prop} {s : Nat} (h : ∀ x cs, R x cs → cs.length = s) (d : α) : ∀ (l : List α) (cs : List Value) (i : Nat), LR R l cs → i < l.length →
    ∃ c1 c2 c3, cs = c1 ++ c2 ++ c3 ∧ c1.length = i * s ∧ R (l.getD i d) c2 ∧ ∀ y c, R y c → LR R (l.set i y) (c1 ++ c ++ c3)
  | [], cs, i, H, hi => by simp at hi
  | x :: l, cs, 0, H, hi => by
    obtain ⟨c1, c2, e, h1, h2⟩ := H
    exact ⟨[], c1, c2, by simpa using e, by simp, by simpa using h1, fun y c hy => ⟨c, c2, by simp, hy, h2⟩⟩
  | x :: l, cs, i + 1, H, hi => by
    obtain ⟨c1, c2, e, h1, h2⟩ := H
    obtain ⟨d1, d2, d3, e', hl, hr, hs⟩ := LR.at h d l c2 i h2 (by simpa using hi)
    refine ⟨c1 ++ d1, d2, d3, by rw [e, e']; simp, by rw [List.length_append, h x c1 h1, hl, Nat.succ_mul, Nat.add_comm], by simpa using hr, fun y c hy => ?_⟩
    exact ⟨c1, d1 ++ c ++ d3, by simp, h1, hs y c hy⟩

omit [GTab] in
theorem LR.append {α : Type} {R : α → List Value → Prop} : ∀ (l m : List α) (cs ds : List Value), LR R l cs → LR R m ds → LR R (l ++ m) (cs ++ ds)
  | [], m, cs, ds, H, K => by simp only [LR] at H; subst H; simpa using K
  | x :: l, m, cs, ds, H, K => by
    obtain ⟨c1, c2, e, h1, h2⟩ := H
    exact ⟨c1, c2 ++ ds, by rw [e]; simp, h1, LR.append l m c2 ds h2 K⟩

omit [GTab] in
theorem LR.split {α : Type} {R : α → List Value → Prop} {s : Nat} (h : ∀ x cs, R x cs → cs.length = s) : ∀ (l : List α) (cs : List Value) (n : Nat), LR R l cs → n ≤ l.length →
    LR R (l.take n) (cs.take (n * s)) ∧ LR R (l.drop n) (cs.drop (n * s))
  | l, cs, 0, H, _ => by simpa [LR] using H
  | [], cs, n + 1, H, hi => by simp at hi
  | x :: l, cs, n + 1, H, hi => by
    obtain ⟨c1, c2, e, h1, h2⟩ := H
    obtain ⟨a, b⟩ := LR.split h l c2 n h2 (by simpa using hi)
    have hc := h x c1 h1
    have e2 : (n + 1) * s = c1.length + n * s := by rw [hc, Nat.succ_mul, Nat.add_comm]
    refine ⟨⟨c1, c2.take (n * s), ?_, h1, a⟩, ?_⟩
    · rw [e, e2, List.take_length_add_append]
    · rw [e, e2, List.drop_length_add_append]; exact b

omit [GTab] in
theorem LR.replicate {α : Type} {R : α → List Value → Prop} {x : α} {c : List Value} (h : R x c) : ∀ n, LR R (List.replicate n x) (List.flatten (List.replicate n c))
  | 0 => by simp [LR]
  | n + 1 => ⟨c, _, by simp [List.replicate_succ], h, LR.replicate h n⟩

omit [GTab] in
theorem CR.fld {E : Env} : ∀ (t : Ty) (x : t.I) (i : Nat) (a : AV) (cs : List Value), t.fld x i = some a → CR E t x cs →
    ∃ c1 c2 c3, cs = c1 ++ c2 ++ c3 ∧ c1.length = t.foff i ∧ CR E a.t a.x c2 ∧ t.fty i = some a.t
  | .last a, x, 0, b, cs, h, H => by
    simp only [Ty.fld, Option.some.injEq] at h; subst h
    exact ⟨[], cs, [], by simp, rfl, H, rfl⟩
  | .cons a r, x, 0, b, cs, h, H => by
    simp only [Ty.fld, Option.some.injEq] at h; subst h
    obtain ⟨c1, c2, e, h1, h2⟩ := H
    exact ⟨[], c1, c2, by simpa using e, rfl, h1, rfl⟩
  | .cons a r, x, k + 1, b, cs, h, H => by
    obtain ⟨c1, c2, e, h1, h2⟩ := H
    obtain ⟨d1, d2, d3, e', hl, hr, ht⟩ := CR.fld r x.2 k b c2 h h2
    exact ⟨c1 ++ d1, d2, d3, by rw [e, e']; simp, by rw [List.length_append, CR.len a x.1 c1 h1, hl]; rfl, hr, ht⟩
  | .last a, x, k + 1, b, cs, h, H => by simp [Ty.fld] at h
  | .int _, x, i, b, cs, h, H => by simp [Ty.fld] at h
  | .bool, x, i, b, cs, h, H => by simp [Ty.fld] at h
  | .str, x, i, b, cs, h, H => by simp [Ty.fld] at h
  | .ref _, x, i, b, cs, h, H => by simp [Ty.fld] at h
  | .unit, x, i, b, cs, h, H => by simp [Ty.fld] at h
  | .arr .., x, i, b, cs, h, H => by simp [Ty.fld] at h

omit [GTab] in
theorem AV.as_eq {a : AV} {t : Ty} {x : t.I} (h : a.as t = some x) : a = ⟨t, x⟩ := by
  unfold AV.as at h
  split at h
  · rename_i e
    obtain ⟨u, y⟩ := a
    simp only at e
    subst e
    simp only [Option.some.injEq] at h
    subst h; rfl
  · cases h

omit [GTab] in
theorem CR.setf {E : Env} : ∀ (t : Ty) (x : t.I) (i : Nat) (y : AV) (z : t.I) (c1 c2 c3 c : List Value), t.setf x i y = some z → CR E t x (c1 ++ c2 ++ c3) → c1.length = t.foff i →
    c2.length = y.t.size → CR E y.t y.x c → CR E t z (c1 ++ c ++ c3)
  | .last a, x, 0, y, z, c1, c2, c3, c, h, H, hl, h2, hc => by
    simp only [Ty.setf] at h
    have := AV.as_eq h; subst this
    have l1 : c1 = [] := by simpa [Ty.foff] using hl
    have l3 : c3 = [] := by
      have := CR.len _ _ _ H
      have h2' : c2.length = a.size := h2
      simp only [Ty.size, List.length_append, h2', l1] at this
      simpa using this
    subst l1 l3
    show CR E a z _
    simpa using hc
  | .cons a r, x, 0, y, z, c1, c2, c3, c, h, H, hl, h2, hc => by
    simp only [Ty.setf, Option.map_eq_some_iff] at h
    obtain ⟨w, hw, rfl⟩ := h
    have := AV.as_eq hw; subst this
    have l1 : c1 = [] := by simpa [Ty.foff] using hl
    subst l1
    obtain ⟨d1, d2, e, k1, k2⟩ := H
    have hd := CR.len _ _ _ k1
    simp only [List.nil_append] at e
    have he := List.append_inj e (by rw [hd]; exact h2)
    exact ⟨c, c3, by simp, hc, by rw [he.2]; exact k2⟩
  | .cons a r, x, k + 1, y, z, c1, c2, c3, c, h, H, hl, h2, hc => by
    simp only [Ty.setf, Option.map_eq_some_iff] at h
    obtain ⟨w, hw, rfl⟩ := h
    obtain ⟨d1, d2, e, k1, k2⟩ := H
    have hd := CR.len _ _ _ k1
    simp only [Ty.foff] at hl
    have e1 : c1 = c1.take d1.length ++ c1.drop d1.length := (List.take_append_drop _ _).symm
    have hx : c1.take d1.length = d1 ∧ c1.drop d1.length ++ c2 ++ c3 = d2 := by
      have e' : c1.take d1.length ++ (c1.drop d1.length ++ c2 ++ c3) = d1 ++ d2 := by
        rw [← e]
        conv => rhs; rw [e1]
        simp only [List.append_assoc]
      exact List.append_inj e' (by simp; omega)
    refine ⟨d1, c1.drop d1.length ++ c ++ c3, ?_, k1, ?_⟩
    · conv => lhs; rw [e1, hx.1]
      simp only [List.append_assoc]
    · exact CR.setf r x.2 k y w _ c2 c3 c hw (by rw [hx.2]; exact k2) (by simp; omega) h2 hc
  | .last a, x, k + 1, y, z, c1, c2, c3, c, h, _, _, _, _ => by simp [Ty.setf] at h
  | .int _, x, i, y, z, c1, c2, c3, c, h, _, _, _, _ => by simp [Ty.setf] at h
  | .bool, x, i, y, z, c1, c2, c3, c, h, _, _, _, _ => by simp [Ty.setf] at h
  | .str, x, i, y, z, c1, c2, c3, c, h, _, _, _, _ => by simp [Ty.setf] at h
  | .ref _, x, i, y, z, c1, c2, c3, c, h, _, _, _, _ => by simp [Ty.setf] at h
  | .unit, x, i, y, z, c1, c2, c3, c, h, _, _, _, _ => by simp [Ty.setf] at h
  | .arr .., x, i, y, z, c1, c2, c3, c, h, _, _, _, _ => by simp [Ty.setf] at h

/-- Is it an array. -/
def Ty.isArr : Ty → Bool
  | .arr .. => true
  | _ => false

omit [GTab] in
theorem rdp_other {i : Nat} {p : List Nat} {t : Ty} {x : t.I} (h : t.isArr = false) : rdp (i :: p) ⟨t, x⟩ = (t.fld x i).bind (rdp p) := by
  cases t <;> first | rfl | simp [Ty.isArr] at h

omit [GTab] in
theorem wrp_other {i : Nat} {p : List Nat} {t : Ty} {x : t.I} {y : AV} (h : t.isArr = false) :
    wrp (i :: p) ⟨t, x⟩ y = (t.fld x i).bind fun a => (wrp p a y).bind fun z => t.setf x i ⟨a.t, z⟩ := by
  cases t <;> first | rfl | simp [Ty.isArr] at h

omit [GTab] in
theorem okp_other {i : Nat} {p : List Nat} {t : Ty} (h : t.isArr = false) : okp (i :: p) t = match t.fty i with | some a => okp p a | none => [False] := by
  cases t <;> first | rfl | simp [Ty.isArr] at h

omit [GTab] in
theorem offp_other {i : Nat} {p : List Nat} {t : Ty} (h : t.isArr = false) : offp (i :: p) t = t.foff i + match t.fty i with | some a => offp p a | none => 0 := by
  cases t <;> first | rfl | simp [Ty.isArr] at h

omit [GTab] in
theorem subt_other {i : Nat} {p : List Nat} {t : Ty} (h : t.isArr = false) : subt (i :: p) t = (t.fty i).bind (subt p) := by
  cases t <;> first | rfl | simp [Ty.isArr] at h

omit [GTab] in
theorem rdp_ok {E : Env} : ∀ (p : List Nat) (a a' : AV) (cs : List Value), rdp p a = some a' → allP (okp p a.t) → CR E a.t a.x cs →
    ∃ c1 c2 c3, cs = c1 ++ c2 ++ c3 ∧ c1.length = offp p a.t ∧ CR E a'.t a'.x c2 ∧ subt p a.t = some a'.t
  | [], a, a', cs, h, _, H => by
    simp only [rdp, Option.some.injEq] at h; subst h
    exact ⟨[], cs, [], by simp, by simp [offp], H, by simp [subt]⟩
  | i :: p, ⟨t, x⟩, a', cs, h, hp, H => by
    by_cases ha : t.isArr = true
    · cases t <;> simp only [Ty.isArr, Bool.false_eq_true] at ha
      rename_i n t
      simp only [rdp] at h
      simp only [okp, allP_cons] at hp
      obtain ⟨c1, c2, c3, e, hl, hr, _⟩ := LR.at (fun x c hx => CR.len t x c hx) t.dflt x cs i H.2 (by rw [H.1]; exact hp.1)
      obtain ⟨d1, d2, d3, e', hl', hr', hs⟩ := rdp_ok p _ a' c2 h hp.2 hr
      exact ⟨c1 ++ d1, d2, d3 ++ c3, by rw [e, e']; simp, by simp [offp, hl, hl'], hr', by simpa [subt] using hs⟩
    · have ha : t.isArr = false := by simpa using ha
      rw [rdp_other ha] at h
      rw [okp_other ha] at hp
      simp only [Option.bind_eq_some_iff] at h
      obtain ⟨b, hb, hr⟩ := h
      obtain ⟨c1, c2, c3, e, hl, hc, ht⟩ := CR.fld t x i b cs hb H
      simp only [ht] at hp
      obtain ⟨d1, d2, d3, e', hl', hr', hs⟩ := rdp_ok p b a' c2 hr hp hc
      refine ⟨c1 ++ d1, d2, d3 ++ c3, by rw [e, e']; simp, ?_, hr', ?_⟩
      · rw [offp_other ha, ht, List.length_append, hl, hl']
      · rw [subt_other ha, ht]; exact hs

omit [GTab] in
theorem wrp_ok {E : Env} : ∀ (p : List Nat) (a y : AV) (z : a.t.I) (cs : List Value), wrp p a y = some z → allP (okp p a.t) → CR E a.t a.x cs →
    ∃ c1 c2 c3, cs = c1 ++ c2 ++ c3 ∧ c1.length = offp p a.t ∧ c2.length = y.t.size ∧ subt p a.t = some y.t ∧ ∀ c, CR E y.t y.x c → CR E a.t z (c1 ++ c ++ c3)
  | [], a, y, z, cs, h, _, H => by
    simp only [wrp] at h
    have := AV.as_eq h
    subst this
    exact ⟨[], cs, [], by simp, by simp [offp], CR.len _ _ _ H, by simp [subt], fun c hc => by simpa using hc⟩
  | i :: p, ⟨t, x⟩, y, z, cs, h, hp, H => by
    by_cases ha : t.isArr = true
    · cases t <;> simp only [Ty.isArr, Bool.false_eq_true] at ha
      rename_i n t
      simp only [wrp, Option.map_eq_some_iff] at h
      obtain ⟨w, hw, rfl⟩ := h
      simp only [okp, allP_cons] at hp
      obtain ⟨c1, c2, c3, e, hl, hr, hset⟩ := LR.at (fun x c hx => CR.len t x c hx) t.dflt x cs i H.2 (by rw [H.1]; exact hp.1)
      obtain ⟨d1, d2, d3, e', hl', hl2, hs, hr'⟩ := wrp_ok p ⟨t, List.getD x i t.dflt⟩ y w c2 hw hp.2 hr
      refine ⟨c1 ++ d1, d2, d3 ++ c3, by rw [e, e']; simp, by simp [offp, hl, hl'], hl2, by simpa [subt] using hs, fun c hc => ?_⟩
      have := hset w _ (hr' c hc)
      exact ⟨by rw [List.length_set]; exact H.1, by simpa using this⟩
    · have ha : t.isArr = false := by simpa using ha
      rw [wrp_other ha] at h
      rw [okp_other ha] at hp
      simp only [Option.bind_eq_some_iff] at h
      obtain ⟨b, hb, w, hw, hz⟩ := h
      obtain ⟨c1, c2, c3, e, hl, hc, ht⟩ := CR.fld t x i b cs hb H
      simp only [ht] at hp
      obtain ⟨d1, d2, d3, e', hl', hl2, hs, hr'⟩ := wrp_ok p b y w c2 hw hp hc
      refine ⟨c1 ++ d1, d2, d3 ++ c3, by rw [e, e']; simp, ?_, hl2, ?_, fun c hcc => ?_⟩
      · rw [offp_other ha, ht, List.length_append, hl, hl']
      · rw [subt_other ha, ht]; exact hs
      · have := CR.setf t x i ⟨b.t, w⟩ z c1 c2 c3 (d1 ++ c ++ d3) hz (by rw [← e]; exact H) hl (CR.len _ _ _ hc) (hr' c hcc)
        simpa using this

omit [GTab] in
theorem rowGet_eq {α : Type} (one : Bool) (l : List α) (i : Nat) (d : α) : rowGet one l i d = l.getD i d := by
  unfold rowGet
  split
  · split
    · rfl
    · rfl
  · rfl

omit [GTab] in
theorem rowSet_eq {α : Type} (one : Bool) (l : List α) (i : Nat) (y : α) : rowSet one l i y = l.set i y := by
  unfold rowSet
  split
  · split
    · rfl
    · rfl
  · rfl

omit [GTab] in
theorem rowIn_lt {α : Type} {one : Bool} {l : List α} {i : Nat} (h : allP (rowIn one l i)) : i < l.length := by
  unfold rowIn at h
  split at h
  · split at h
    · simp
    · exact h
  · exact h

end Go.SL

/- S-logic, part 6: type tables; memory. -/
namespace Go.SL
open Go
variable [GTab]

/-! ### Type tables -/

def Ty.zcells : Ty → List Value
  | .int k => [.int k 0] | .bool => [.bool false] | .str => [.string ByteArray.empty]
  | .ref .ptr => [.pointer none] | .ref .slice => [.slice none 0 0] | .ref .func => [.nilFunc] | .ref .iface => [.nilIface] | .ref .map => [.map none]
  | .unit => []
  | .arr n t => (List.replicate n t.zcells).flatten
  | .last a => a.zcells
  | .cons a r => a.zcells ++ r.zcells

def eqZ : Value → Value → Bool
  | .int k x, .int k' y => decide (k = k') && decide (x = y)
  | .bool x, .bool y => x == y
  | .string x, .string y => decide (x = y)
  | .pointer none, .pointer none => true
  | .slice none 0 0, .slice none 0 0 => true
  | .nilFunc, .nilFunc => true
  | .nilIface, .nilIface => true
  | .map none, .map none => true
  | _, _ => false

def eqZs : List Value → List Value → Bool
  | [], [] => true
  | x :: l, y :: m => eqZ x y && eqZs l m
  | _, _ => false

def zeroOk (t : Ty) (z : Value) : Bool := match t.agg, z with
  | true, .agg cs => eqZs cs.toList t.zcells
  | false, z => eqZs [z] t.zcells
  | _, _ => false

def fieldsOk (D : TI) : List Field → Nat → Ty → Bool
  | [f], off, .last a => decide (D.ty f.type = some a) && decide (f.offset = off)
  | f :: g :: fs, off, .cons a r => decide (D.ty f.type = some a) && decide (f.offset = off) && fieldsOk D (g :: fs) (off + a.size) r
  | _, _, _ => false

def descOk (D : TI) : Ty → TypeDesc → Bool
  | .int k, .int k' => decide (k = k')
  | .bool, .bool => true
  | .str, .string => true
  | .ref .ptr, .pointer _ => true
  | .ref .slice, .slice _ => true
  | .ref .func, .func .. => true
  | .ref .iface, .interface _ => true
  | .ref .map, .map .. => true
  | .unit, .struct fs => fs.size == 0
  | .arr n t, .array m e => decide (n = m) && decide (D.ty e = some t)
  | .last a, .struct fs => fieldsOk D fs.toList 0 (.last a)
  | .cons a r, .struct fs => fieldsOk D fs.toList 0 (.cons a r)
  | _, _ => false

def chkTy (P : Program) (D : TI) (T : TypeId) : Bool := match D.ty T with
  | none => true
  | some t => match P.info? T, P.underlying T with
    | some i, some d => decide (i.size = t.size) && (match i.zero with | some z => zeroOk t z | none => false) && descOk D t d
    | _, _ => false

def chkSl (P : Program) (D : TI) (T : TypeId) : Bool := match D.sl T with
  | none => true
  | some e => match P.underlying T, P.info? e with
    | some (.slice e'), some i => decide (e' = e) && decide (i.bytes = D.bytes e)
    | _, _ => false

/-- May values of this type be compared plainly. -/
def plainT (D : TI) (T : TypeId) : Bool := D.eqok T || match D.ty T with | some t => !t.agg | none => false

def chkEq (P : Program) (D : TI) (T : TypeId) : Bool := !D.eqok T || (!P.eqGuardType P.depth T && !P.stoodInHeld T &&
  match P.underlying T with
  | some (.struct fs) => fs.toList.all fun f => decide (f.name ≠ "_") && plainT D f.type
  | some (.array _ e) => plainT D e
  | _ => false)

def chkMp (P : Program) (D : TI) (T : TypeId) : Bool := match D.mp T with
  | none => true
  | some (k, v) => match P.underlying T with
    | some (.map k' v') => decide (k' = k) && decide (v' = v)
    | _ => false

structure Good (P : Program) (D : TI) : Prop where
  mp : ∀ T, chkMp P D T = true
  ty : ∀ T, chkTy P D T = true
  sl : ∀ T, chkSl P D T = true
  eq : ∀ T, chkEq P D T = true

omit [GTab] in
theorem eqZ_eq {x y : Value} (h : eqZ x y = true) : x = y := by
  unfold eqZ at h
  split at h <;> simp_all

omit [GTab] in
theorem eqZs_eq : ∀ {l m : List Value}, eqZs l m = true → l = m
  | [], [], _ => rfl
  | x :: l, y :: m, h => by
    simp only [eqZs, Bool.and_eq_true] at h
    rw [eqZ_eq h.1, eqZs_eq h.2]
  | [], y :: m, h => by simp [eqZs] at h
  | x :: l, [], h => by simp [eqZs] at h

omit [GTab] in
theorem min_le_zero (k : IntKind) : k.min ≤ 0 := by cases k <;> decide
omit [GTab] in
theorem zero_le_max (k : IntKind) : 0 ≤ k.max := by cases k <;> decide

omit [GTab] in
theorem CR.zero (E : Env) : ∀ t : Ty, CR E t t.dflt t.zcells
  | .int k => ⟨rfl, min_le_zero k, zero_le_max k⟩
  | .bool => rfl
  | .str => ⟨rfl, by decide⟩
  | .ref k => by cases k <;> exact ⟨_, rfl, by simp [VR, Ty.dflt, RK.nil], rfl⟩
  | .unit => rfl
  | .arr n t => ⟨by simp [Ty.dflt], LR.replicate (CR.zero E t) n⟩
  | .last a => CR.zero E a
  | .cons a r => ⟨_, _, rfl, CR.zero E a, CR.zero E r⟩

omit [GTab] in
theorem zeroOk_AR (E : Env) {t : Ty} {z : Value} (h : zeroOk t z = true) : AR E ⟨t, t.dflt⟩ z := by
  unfold zeroOk at h
  unfold AR
  split at h
  · rename_i cs hh
    simp only [hh]
    exact ⟨cs, rfl, by rw [eqZs_eq h]; exact CR.zero E t⟩
  · rename_i hh
    simp only [hh]
    have := eqZs_eq h
    have hz := CR.zero E t
    rw [← this] at hz; exact hz
  · cases h

omit [GTab] in
theorem Good.info {P : Program} {D : TI} (g : Good P D) {T : TypeId} {t : Ty} (h : D.ty T = some t) :
    ∃ i d z, P.info? T = some i ∧ P.underlying T = some d ∧ i.size = t.size ∧ i.zero = some z ∧ (∀ E, AR E ⟨t, t.dflt⟩ z) ∧ descOk D t d = true := by
  have := g.ty T
  unfold chkTy at this
  simp only [h] at this
  split at this
  · rename_i i d hi hd
    simp only [Bool.and_eq_true, decide_eq_true_eq] at this
    obtain ⟨⟨h1, h2⟩, h3⟩ := this
    split at h2
    · rename_i z hz
      exact ⟨i, d, z, hi, hd, h1, hz, fun E => zeroOk_AR E h2, h3⟩
    · cases h2
  · cases this

omit [GTab] in
theorem Good.slice {P : Program} {D : TI} (g : Good P D) {T e : TypeId} (h : D.sl T = some e) :
    ∃ i, P.underlying T = some (.slice e) ∧ P.info? e = some i ∧ i.bytes = D.bytes e := by
  have := g.sl T
  unfold chkSl at this
  simp only [h] at this
  split at this
  · rename_i e' i hd hi
    simp only [Bool.and_eq_true, decide_eq_true_eq] at this
    obtain ⟨rfl, hb⟩ := this
    exact ⟨i, hd, hi, hb⟩
  · cases this

section
variable {P : Program} {D : TI} (g : Good P D) {T : TypeId} {t : Ty} (h : D.ty T = some t) (w : World)
include g h

omit [GTab] in
theorem run_sizeOf : (sizeOf T).run P w = .ok t.size w := by
  obtain ⟨i, d, z, hi, hd, hs, hz, _, _⟩ := g.info h
  simp [sizeOf, typeInfo, hi, hs]

omit [GTab] in
theorem run_zero : ∃ z, (zeroValue T).run P w = .ok z w ∧ ∀ E, AR E ⟨t, t.dflt⟩ z := by
  obtain ⟨i, d, z, hi, hd, hs, hz, ha, _⟩ := g.info h
  exact ⟨z, by simp [zeroValue, typeInfo, hi, hz], ha⟩

omit [GTab] in
theorem run_isAgg : (isAgg T).run P w = .ok t.agg w := by
  obtain ⟨i, d, z, hi, hd, hs, hz, _, hx⟩ := g.info h
  simp only [isAgg, underlying, Sem.run_bind, run_program, Result.andThen_ok, hd, Sem.run_pure]
  cases t <;> cases d <;> simp [descOk, Ty.agg] at hx ⊢ <;> first | rfl | (rename_i k; cases k <;> simp at hx)

end

omit [GTab] in
theorem AR.cells {E : Env} {a : AV} {v : Value} (h : AR E a v) : CR E a.t a.x v.cells.toList := by
  unfold AR at h
  split at h
  · obtain ⟨cs, rfl, hc⟩ := h; exact hc
  · rename_i hh
    have hl := CR.len _ _ _ h
    obtain ⟨t, x⟩ := a
    cases t <;> simp [Ty.agg] at hh
    · simp only [CR] at h; obtain ⟨h, _⟩ := h; cases List.singleton_inj.1 h; simp [CR, Value.cells]; omega
    · simp only [CR] at h; cases List.singleton_inj.1 h; simp [CR, Value.cells]
    · simp only [CR] at h; obtain ⟨h, h2⟩ := h; cases List.singleton_inj.1 h; simp [CR, Value.cells, h2]
    · have h0 := h
      simp only [CR] at h; obtain ⟨u, h, h1, h2⟩ := h; cases List.singleton_inj.1 h
      cases v <;> first | exact h0 | (cases x <;> simp [VR, Ref.isAgg] at h1 h2)

omit [GTab] in
theorem CR.oneCell {E : Env} : ∀ (t : Ty) (x : t.I) (cs : List Value), CR E t x cs → ∀ v ∈ cs, v.oneCell' = true
  | .int k, x, cs, H, v, hv => by rw [H.1, List.mem_singleton] at hv; subst hv; rfl
  | .bool, x, cs, H, v, hv => by simp only [CR] at H; rw [H, List.mem_singleton] at hv; subst hv; rfl
  | .str, x, cs, H, v, hv => by rw [H.1, List.mem_singleton] at hv; subst hv; rfl
  | .ref k, x, cs, H, v, hv => by
    obtain ⟨u, e, h1, h2⟩ := H
    rw [e, List.mem_singleton] at hv; subst hv
    cases v <;> first | rfl | (cases x <;> simp [VR, Ref.isAgg] at h1 h2)
  | .unit, x, cs, H, v, hv => by simp only [CR] at H; rw [H] at hv; cases hv
  | .arr n t, l, cs, H, v, hv => go t l cs H.2 v hv
  | .last a, x, cs, H, v, hv => CR.oneCell a x cs H v hv
  | .cons a r, x, cs, H, v, hv => by
    obtain ⟨c1, c2, e, h1, h2⟩ := H
    rw [e, List.mem_append] at hv
    exact hv.elim (CR.oneCell a x.1 c1 h1 v) (CR.oneCell r x.2 c2 h2 v)
where go (t : Ty) : ∀ (l : List t.I) (cs : List Value), LR (CR E t) l cs → ∀ v ∈ cs, v.oneCell' = true
  | [], cs, H, v, hv => by simp only [LR] at H; rw [H] at hv; cases hv
  | x :: l, cs, H, v, hv => by
    obtain ⟨c1, c2, e, h1, h2⟩ := H
    rw [e, List.mem_append] at hv
    exact hv.elim (CR.oneCell t x c1 h1 v) (go t l c2 h2 v)

/-! ### Memory -/

omit [GTab] in
theorem lt_of_heap {w : World} {g : Nat} {o : Obj} (h : w.heap[g]? = some o) : g < w.heap.size := by
  rcases Nat.lt_or_ge g w.heap.size with h' | h'
  · exact h'
  · rw [Array.getElem?_eq_none h'] at h; cases h

omit [GTab] in
theorem Addr.add_spot (g o n : Nat) : (⟨g, o, none⟩ : Addr).add n = ⟨g, o + n, none⟩ := by
  unfold Addr.add; split <;> simp_all

omit [GTab] in
theorem run_loadCellsFrom (P : Program) (w : World) (g o : Nat) (cs : Array Value) (T : TypeId) (fr : Nat × Nat) (h : w.heap[g]? = some (.cells cs T fr)) :
    ∀ (n i : Nat) (acc : Array Value) (A B C : List Value), cs.toList = A ++ B ++ C → A.length = o + i → B.length = n →
      (loadCellsFrom ⟨g, o, none⟩ i n acc).run P w = .ok (acc ++ B.toArray) w
  | 0, i, acc, A, B, C, e, ha, hb => by
    have : B = [] := List.length_eq_zero_iff.1 hb
    simp [loadCellsFrom, this]
  | n + 1, i, acc, A, B, C, e, ha, hb => by
    match B, hb with
    | b :: B, hb =>
      have hc : w.cell? ⟨g, o + i, none⟩ = some b := by
        rw [cell_of_row w g (o + i) cs T fr h, ← Array.getElem?_toList, e, ← ha]
        simp
      simp only [loadCellsFrom, Addr.add_spot, Sem.run_bind, run_load, hc, Result.andThen_ok]
      rw [run_loadCellsFrom P w g o cs T fr h n (i + 1) (acc.push b) (A ++ [b]) B C (by rw [e]; simp) (by simp [ha]; omega) (by simpa using hb)]
      simp

omit [GTab] in
theorem run_loadCells (P : Program) {w : World} {g o n : Nat} {cs : Array Value} {T : TypeId} {fr : Nat × Nat} {A B C : List Value} (h : w.heap[g]? = some (.cells cs T fr))
    (e : cs.toList = A ++ B ++ C) (ha : A.length = o) (hb : B.length = n) : (loadCells ⟨g, o, none⟩ n).run P w = .ok B.toArray w := by
  have := run_loadCellsFrom P w g o cs T fr h n 0 #[] A B C e (by simpa using ha) hb
  simpa [loadCells] using this

omit [GTab] in
theorem run_storeCells (P : Program) (g o : Nat) (T : TypeId) (fr : Nat × Nat) :
    ∀ (vs : List Value) (i : Nat) (w : World) (cs : Array Value) (A B C : List Value), w.heap[g]? = some (.cells cs T fr) → cs.toList = A ++ B ++ C → A.length = o + i → B.length = vs.length →
      (∀ v ∈ vs, v.oneCell' = true) → (∀ j, o ≤ j → j < cs.size → ¬ (fr.1 ≤ j ∧ j < fr.2)) →
      ∃ w', (storeCells ⟨g, o, none⟩ vs i).run P w = .ok () w' ∧ w'.heap[g]? = some (.cells (A ++ vs ++ C).toArray T fr) ∧ (∀ k, k ≠ g → w'.heap[k]? = w.heap[k]?) ∧
        w'.heap.size = w.heap.size ∧ w'.os = w.os ∧ w'.tape = w.tape ∧ w'.output = w.output
  | [], i, w, cs, A, B, C, h, e, ha, hb, _, _ => by
    have : B = [] := List.length_eq_zero_iff.1 hb
    subst this
    refine ⟨w, by simp [storeCells], ?_, fun _ _ => rfl, rfl, rfl, rfl, rfl⟩
    rw [h]
    have : cs = (A ++ [] ++ C).toArray := by rw [← e]
    rw [this]
  | v :: vs, i, w, cs, A, B, C, h, e, ha, hb, ho, hf => by
    match B, hb with
    | b :: B, hb =>
      have hc : w.cell? ⟨g, o + i, none⟩ = some b := by
        rw [cell_of_row w g (o + i) cs T fr h, ← Array.getElem?_toList, e, ← ha]
        simp
      have hlt : o + i < cs.size := by
        rw [← Array.length_toList, e]; simp; omega
      have hz : w.frozen? ⟨g, o + i, none⟩ = false := by
        have := hf (o + i) (by omega) hlt
        simp only [World.frozen?, h]
        simpa using this
      have hg := lt_of_heap h
      have hh : (w.setCell ⟨g, o + i, none⟩ v).heap[g]? = some (.cells (cs.setIfInBounds (o + i) v) T fr) := by
        simp only [World.setCell, Array.getElem?_modify, h]
        simp
      have hcs : (cs.setIfInBounds (o + i) v).toList = (A ++ [v]) ++ B ++ C := by
        rw [Array.toList_setIfInBounds, e, ← ha]
        simp
      obtain ⟨w', h1, h2, h3, h4, h5, h6, h7⟩ := run_storeCells P g o T fr vs (i + 1) (w.setCell ⟨g, o + i, none⟩ v) _ (A ++ [v]) B C hh hcs (by simp [ha]; omega) (by simpa using hb)
        (fun u hu => ho u (List.mem_cons_of_mem _ hu)) (fun j hj hj' => hf j hj (by simpa using hj'))
      refine ⟨w', ?_, by simpa using h2, fun k hk => ?_, by rw [h4]; simp [World.setCell], h5, h6, h7⟩
      · simp only [storeCells, Addr.add_spot, Sem.run_bind, run_store P w _ v .plain (ho v (List.mem_cons_self ..)), hc, hz, Result.andThen_ok, Bool.false_eq_true, if_false]
        exact h1
      · rw [h3 k hk, heap_setCell_other w _ k v hk]

end Go.SL

/- S-logic, part 7: what operations do, one by one. -/
namespace Go.SL
open Go
variable [GTab]

def updL (L : Nat → Option Blk) : List (Nat × Option Blk) → Nat → Option Blk
  | [] => L
  | u :: l => updL (fun j => if j = u.1 then u.2 else L j) l

def updE (E : Env) (m : Nat) (l : Loc) : Env := fun i => if i = m then l else E i

def OpOk (P : Program) (ρc : Operand → Value) (o : Oper) (m : Nat) (E : Env) (L : Nat → Option Blk) (w : World) (e : Eff) : Prop :=
  ∃ v w' E', ((execOp ρc o).run P w = .ok (.value v) w' ∨ ((execOp ρc o).run P w = .ok .skip w' ∧ v = undef)) ∧ SR E' e.v v ∧ HR E' (updL L e.upd) w' ∧ Fr E w E' w' ∧
    (∀ i, (E' i).st ≠ .dead → (E i).st ≠ .dead ∨ (i ∈ e.upd.map (·.1) ∧ m ≤ i))

omit [GTab] in
theorem updE_mono {E : Env} {m : Nat} {l : Loc} (h : (E m).st = .dead) : ∀ i, (E i).st ≠ .dead → updE E m l i = E i := by
  intro i hi
  unfold updE
  split
  · rename_i e; subst e; exact absurd h hi
  · rfl

theorem GOK.sub {E E0 : Env} {w : World} (h : GOK E w) (hs : ∀ i, (E0 i).st = .real → (E0 i).rw = true → ∃ j, (E j).st = .real ∧ (E j).rw = true ∧ (E0 i).blk = (E j).blk) : GOK E0 w := by
  intro g a hg
  obtain ⟨h1, h3⟩ := h g a hg
  refine ⟨h1, fun i hr hrw => ?_⟩
  obtain ⟨j, j1, j2, j3⟩ := hs i hr hrw
  rw [j3]; exact h3 j j1 j2

theorem GOK.fr {E E' : Env} {w w' : World} (h : GOK E w) (F : Fr E w E' w') : GOK E' w' := by
  intro g a hg
  obtain ⟨⟨cs, T, fr, h1, h2⟩, h3⟩ := h g a hg
  have hlt := lt_of_heap h1
  refine ⟨⟨cs, T, fr, by rw [F.keep g hlt h3]; exact h1, h2⟩, fun i hr hrw => ?_⟩
  by_cases hd : (E i).st = .dead
  · rcases F.new i hd hr with h | ⟨j, j1, j2, j3⟩
    · omega
    · rw [j3]; exact h3 j j1 j2
  · have := F.env i hd
    rw [this] at hr hrw ⊢
    exact h3 i hr hrw

theorem GOK.put {E : Env} {w w' : World} (h : GOK E w) {i : Nat} (hr : (E i).st = .real) (hrw : (E i).rw = true) (hw : ∀ k, k ≠ (E i).blk → w'.heap[k]? = w.heap[k]?) : GOK E w' := by
  intro g a hg
  obtain ⟨⟨cs, T, fr, h1, h2⟩, h3⟩ := h g a hg
  exact ⟨⟨cs, T, fr, by rw [hw g (Ne.symm (h3 i hr hrw))]; exact h1, h2⟩, h3⟩

theorem GOK.new {E : Env} {w w' : World} {m : Nat} {l : Loc} (h : GOK E w) (hs : w.heap.size ≤ l.blk) (hw : ∀ k, k < w.heap.size → w'.heap[k]? = w.heap[k]?) : GOK (updE E m l) w' := by
  intro g a hg
  obtain ⟨⟨cs, T, fr, h1, h2⟩, h3⟩ := h g a hg
  have hlt := lt_of_heap h1
  refine ⟨⟨cs, T, fr, by rw [hw g hlt]; exact h1, h2⟩, fun i hr hrw => ?_⟩
  by_cases e : i = m
  · have : updE E m l i = l := by simp [updE, e]
    rw [this]; omega
  · have : updE E m l i = E i := by simp [updE, e]
    rw [this] at hr hrw ⊢
    exact h3 i hr hrw

theorem HR.put {E : Env} {L : Nat → Option Blk} {w w' : World} (H : HR E L w) {i : Nat} {b b' : Blk} (hi : L i = some b) (hr : (E i).st = .real) (hrw : (E i).rw = true)
    (hb : BR (E i) E b' w') (hw : ∀ k, k ≠ (E i).blk → w'.heap[k]? = w.heap[k]?) : HR E (updL L [(i, some b')]) w' where
  gl := H.gl.put hr hrw hw
  blk := fun j c hj => by
    simp only [updL] at hj
    split at hj
    · rename_i e; subst e; cases hj; exact hb
    · rename_i e
      refine BR.world (fun hrj => hw _ fun he => e ?_) (H.blk j c hj)
      exact (H.inj i j b c hi hj hr hrj hrw he.symm).symm
  inj := fun j k c d hj hk hrj hrk hrw he => by
    simp only [updL] at hj hk
    have aux : ∀ x y, (if x = i then some b' else L x) = some y → ∃ z, L x = some z := fun x y h => by
      split at h
      · rename_i e; exact ⟨b, e ▸ hi⟩
      · exact ⟨y, h⟩
    obtain ⟨c', hc'⟩ := aux _ _ hj
    obtain ⟨d', hd'⟩ := aux _ _ hk
    exact H.inj j k c' d' hc' hd' hrj hrk hrw he

omit [GTab] in
theorem BR.lt {E : Env} {e : Loc} {b : Blk} {w : World} (H : BR e E b w) (hr : e.st = .real) : e.blk < w.heap.size := by
  unfold BR at H
  simp only [hr] at H
  split at H
  · obtain ⟨_, es, clk, h, _⟩ := H
    rcases Nat.lt_or_ge e.blk w.heap.size with hl | hl
    · exact hl
    · rw [Array.getElem?_eq_none hl] at h; cases h
  · obtain ⟨cs, T, fr, h, _⟩ := H
    exact lt_of_heap h

theorem HR.new {E : Env} {L : Nat → Option Blk} {w w' : World} (H : HR E L w) {m : Nat} (hm : (E m).st = .dead) {l : Loc} {b : Blk}
    (hb : BR l (updE E m l) b w') (hs : w.heap.size ≤ l.blk) (hw : ∀ k, k < w.heap.size → w'.heap[k]? = w.heap[k]?) : HR (updE E m l) (updL L [(m, some b)]) w' where
  gl := H.gl.new hs hw
  blk := fun j c hj => by
    simp only [updL] at hj
    split at hj
    · rename_i e; subst e; cases hj
      have : updE E j l j = l := by simp [updE]
      rw [this]; exact hb
    · rename_i e
      have := H.blk j c hj
      have he : updE E m l j = E j := by simp [updE, e]
      rw [he]
      exact BR.world (fun hrj => hw _ (this.lt hrj)) (this.mono (updE_mono hm))
  inj := fun j k c d hj hk hrj hrk hrw he => by
    simp only [updL] at hj hk
    by_cases ej : j = m <;> by_cases ek : k = m
    · rw [ej, ek]
    · exfalso
      simp only [ek, if_false] at hk
      have e1 : updE E m l j = l := by simp [updE, ej]
      have e2 : updE E m l k = E k := by simp [updE, ek]
      rw [e1, e2] at he
      rw [e2] at hrk
      have := (H.blk k d hk).lt hrk
      omega
    · exfalso
      simp only [ej, if_false] at hj
      have e1 : updE E m l k = l := by simp [updE, ek]
      have e2 : updE E m l j = E j := by simp [updE, ej]
      rw [e1, e2] at he
      rw [e2] at hrj
      have := (H.blk j c hj).lt hrj
      omega
    · simp only [ej, ek, if_false] at hj hk
      have e1 : updE E m l j = E j := by simp [updE, ej]
      have e2 : updE E m l k = E k := by simp [updE, ek]
      rw [e1, e2] at he
      rw [e1] at hrj hrw
      rw [e2] at hrk
      exact H.inj j k c d hj hk hrj hrk hrw he

omit [GTab] in
theorem Fr.ofNew {E : Env} {w w' : World} {m : Nat} {l : Loc} (hm : (E m).st = .dead) (hs : w.heap.size ≤ l.blk) (hsz : w.heap.size ≤ w'.heap.size) (hw : ∀ k, k < w.heap.size → w'.heap[k]? = w.heap[k]?)
    (h1 : w'.os = w.os) (h2 : w'.tape = w.tape) (h3 : w'.output = w.output) : Fr E w (updE E m l) w' where
  env := updE_mono hm
  new := fun i hi hr => by
    by_cases e : i = m
    · exact .inl (by simp [updE, e]; exact hs)
    · have : updE E m l i = E i := by simp [updE, e]
      rw [this, hi] at hr; cases hr
  size := hsz
  keep := fun b hb _ => hw b hb
  os := h1
  tape := h2
  output := h3

omit [GTab] in
theorem Fr.ofPut {E : Env} {w w' : World} {i : Nat} (hr : (E i).st = .real) (hrw : (E i).rw = true) (hsz : w'.heap.size = w.heap.size) (hw : ∀ k, k ≠ (E i).blk → w'.heap[k]? = w.heap[k]?)
    (h1 : w'.os = w.os) (h2 : w'.tape = w.tape) (h3 : w'.output = w.output) : Fr E w E w' where
  env := fun _ _ => rfl
  new := fun j hj hrj => by rw [hj] at hrj; cases hrj
  size := Nat.le_of_eq hsz.symm
  keep := fun b _ hj => hw b fun e => hj i hr hrw e.symm
  os := h1
  tape := h2
  output := h3

/-- A new row of cells. -/
def pushW (w : World) (cs : Array Value) (T : TypeId) : World := { w with heap := w.heap.push (.cells cs T (0, 0)) }

omit [GTab] in
theorem pushW_new (w : World) (cs : Array Value) (T : TypeId) : (pushW w cs T).heap[w.heap.size]? = some (.cells cs T (0, 0)) := by show (w.heap.push _)[w.heap.size]? = _; exact Array.getElem?_push_size
omit [GTab] in
theorem pushW_old (w : World) (cs : Array Value) (T : TypeId) (k : Nat) (h : k < w.heap.size) : (pushW w cs T).heap[k]? = w.heap[k]? := by
  simp only [pushW]; rw [Array.getElem?_push, if_neg (by omega)]

omit [GTab] in
theorem run_newRow (P : Program) (w : World) (T : TypeId) (cs : Array Value) : (newRow T cs).run P w = .ok ⟨w.heap.size, 0, none⟩ (pushW w cs T) := by
  simp [newRow, pushW]

theorem push_ok {E : Env} {L : Nat → Option Blk} {w : World} {m : Nat} (H : HR E L w) (hm : (E m).st = .dead) {t : Ty} {xs : List t.I} {cs : Array Value} {T : TypeId} {one : Bool}
    (h : LR (CR E t) xs cs.toList) :
    HR (updE E m ⟨w.heap.size, 0, cs.size, .real, true⟩) (updL L [(m, some ⟨false, one, t, xs⟩)]) (pushW w cs T) ∧ Fr E w (updE E m ⟨w.heap.size, 0, cs.size, .real, true⟩) (pushW w cs T) ∧
    (∀ i, (updE E m ⟨w.heap.size, 0, cs.size, .real, true⟩ i).st ≠ .dead → (E i).st ≠ .dead ∨ i = m) := by
  refine ⟨H.new hm ?_ (Nat.le_refl _) (fun k hk => pushW_old w cs T k hk), Fr.ofNew hm (Nat.le_refl _) (by simp [pushW]) (fun k hk => pushW_old w cs T k hk) rfl rfl rfl, fun i hi => ?_⟩
  · refine BR.ofCells ?_ (by simp) (Blk.notMap rfl)
    exact ⟨cs, T, (0, 0), pushW_new w cs T, by simp, ⟨[], cs.toList, [], by simp, rfl, LR.imp' (fun x c hx => CR.mono (updE_mono hm) hx) _ _ h⟩, fun _ => ⟨rfl, fun o _ _ => by omega⟩⟩
  · by_cases e : i = m
    · exact .inr e
    · have : updE E m ⟨w.heap.size, 0, cs.size, .real, true⟩ i = E i := by simp [updE, e]
      rw [this] at hi; exact .inl hi

/-! ### Reading slots -/

omit [GTab] in
theorem SV.val_ok {E : Env} {s : SV} {ps : List Prop} {a : AV} {v : Value} (h : s.val = some (ps, a)) (hp : allP ps) (H : SR E s v) : AR E a v := by
  unfold SV.val at h
  split at h
  · cases h; exact H
  · cases h; exact H.1 hp
  · cases h

omit [GTab] in
theorem svI_ok {E : Env} {s : SV} {ps : List Prop} {x : Int} {v : Value} (h : svI s = some (ps, x)) (hp : allP ps) (H : SR E s v) : ∃ k, v = .int k x ∧ k.min ≤ x ∧ x ≤ k.max := by
  unfold svI at h
  split at h
  · rename_i k y
    cases h
    have : AR E ⟨.int k, x⟩ v := H
    simp only [AR, Ty.agg, CR] at this
    exact ⟨k, List.singleton_inj.1 this.1, this.2⟩
  · rename_i k y
    cases h
    have : AR E ⟨.int k, x⟩ v := H.1 hp
    simp only [AR, Ty.agg, CR] at this
    exact ⟨k, List.singleton_inj.1 this.1, this.2⟩
  · cases h

omit [GTab] in
theorem AR.int {E : Env} {k : IntKind} {x : Int} {v : Value} (h : AR E ⟨.int k, x⟩ v) : v = .int k x ∧ k.min ≤ x ∧ x ≤ k.max := by
  simp only [AR, Ty.agg, CR] at h
  exact ⟨List.singleton_inj.1 h.1, h.2⟩
omit [GTab] in
theorem AR.mkInt {E : Env} {k : IntKind} {x : Int} (h : k.min ≤ x) (h' : x ≤ k.max) : AR E ⟨.int k, x⟩ (.int k x) := by
  simp only [AR, Ty.agg, CR]; exact ⟨trivial, h, h'⟩
omit [GTab] in
theorem AR.bool {E : Env} {x : Bool} {v : Value} (h : AR E ⟨.bool, x⟩ v) : v = .bool x := by
  simp only [AR, Ty.agg, CR] at h; exact List.singleton_inj.1 h
omit [GTab] in
theorem AR.mkBool {E : Env} {x : Bool} : AR E ⟨.bool, x⟩ (.bool x) := by simp only [AR, Ty.agg, CR]
omit [GTab] in
theorem AR.str {E : Env} {x : ByteArray} {v : Value} (h : AR E ⟨.str, x⟩ v) : v = .string x ∧ x.size ≤ big := by
  simp only [AR, Ty.agg, CR] at h; exact ⟨List.singleton_inj.1 h.1, h.2⟩
omit [GTab] in
theorem AR.mkStr {E : Env} {x : ByteArray} (h : x.size ≤ big) : AR E ⟨.str, x⟩ (.string x) := by
  simp only [AR, Ty.agg, CR]; exact ⟨trivial, h⟩
omit [GTab] in
theorem AR.ref {E : Env} {k : RK} {x : Ref} {v : Value} (h : AR E ⟨.ref k, x⟩ v) : VR E x v ∧ x.isAgg = false := by
  simp only [AR, Ty.agg, CR] at h
  obtain ⟨u, e, h1, h2⟩ := h
  cases List.singleton_inj.1 e; exact ⟨h1, h2⟩
omit [GTab] in
theorem AR.mkRef {E : Env} {k : RK} {x : Ref} {v : Value} (h : VR E x v) (h' : x.isAgg = false) : AR E ⟨.ref k, x⟩ v := by
  simp only [AR, Ty.agg, CR]; exact ⟨v, rfl, h, h'⟩

omit [GTab] in
theorem svR_ok {E : Env} {s : SV} {ps : List Prop} {r : Ref} {v : Value} (h : svR s = some (ps, r)) (hp : allP ps) (H : SR E s v) : VR E r v ∧ r.isAgg = false := by
  unfold svR at h
  split at h
  · cases h; exact AR.ref H
  · cases h; exact AR.ref (H.1 hp)
  · cases h

omit [GTab] in
theorem vals_ok {E : Env} (ρ : Operand → SV) (ρc : Operand → Value) (hρ : ∀ x, SR E (ρ x) (ρc x)) : ∀ (xs : List Operand) (ps : List Prop) (as : List AV), vals (xs.map ρ) = some (ps, as) → allP ps → ARs E as (xs.map ρc)
  | [], ps, as, h, _ => by simp only [List.map_nil, vals, Option.some.injEq, Prod.mk.injEq] at h; rw [← h.2]; rfl
  | x :: xs, ps, as, h, hp => by
    simp only [List.map_cons, vals, Option.bind_eq_some_iff, Option.map_eq_some_iff] at h
    obtain ⟨⟨p, a⟩, h1, ⟨q, bs⟩, h2, h3⟩ := h
    simp only [Prod.mk.injEq] at h3
    obtain ⟨rfl, rfl⟩ := h3
    rw [allP_append] at hp
    exact ⟨_, _, rfl, SV.val_ok h1 hp.1 (hρ x), vals_ok ρ ρc hρ xs q bs h2 hp.2⟩

omit [GTab] in
theorem wrap_range (k : IntKind) (n : Int) : k.min ≤ k.wrap n ∧ k.wrap n ≤ k.max := by
  cases k <;> simp only [IntKind.wrap, IntKind.min, IntKind.max, IntKind.bits, IntKind.signed] <;> simp <;> (try split) <;> omega

omit [GTab] in
theorem inR_ok {k : IntKind} {n : Int} (h : inR k n = true) : k.min ≤ n ∧ n ≤ k.max := by
  simpa [inR] using h

omit [GTab] in
theorem constSV_ok (E : Env) (v : Value) : SR E (constSV v) v := by
  unfold constSV
  split
  · split
    · rename_i h; exact AR.mkInt (E := E) (inR_ok h).1 (inR_ok h).2
    · trivial
  · exact AR.mkBool (E := E)
  · split
    · rename_i h; exact AR.mkStr (E := E) h
    · trivial
  · exact AR.mkRef (E := E) (by simp [VR]) rfl
  · exact AR.mkRef (E := E) (by simp [VR]) rfl
  · exact AR.mkRef (E := E) (by simp [VR]) rfl
  · exact AR.mkRef (E := E) (by simp [VR]) rfl
  · exact AR.mkRef (E := E) (by simp [VR]) rfl
  · exact AR.mkRef (E := E) (by simp [VR, VRs]) rfl
  · trivial

omit [GTab] in
theorem ev_ok {S : List SV} {E : Env} {a : Act} (h : ∀ i, SR E (S.getD i .any) (a.tmps.getD i undef)) (hp : List (Option Blk)) (x : Operand) : SR E (St.ev ⟨S, hp⟩ x) (a.eval x) := by
  cases x with
  | tmp t => exact h t
  | const v => exact constSV_ok E v
  | global g => trivial
  | func f => exact AR.mkRef (E := E) (by simp [VR, VRs, Act.eval]) rfl

end Go.SL

/- S-logic, part 8: what operations do: values, memory. -/
namespace Go.SL
open Go
variable [GTab]

section
variable {P : Program} {D : TI} (gd : Good P D) {ρc : Operand → Value} {m : Nat} {E : Env} {L : Nat → Option Blk} {w : World}

theorem OpOk.same {o : Oper} {e : Eff} {v : Value} (H : HR E L w) (h : (execOp ρc o).run P w = .ok (.value v) w) (hv : SR E e.v v) (hu : e.upd = []) : OpOk P ρc o m E L w e :=
  ⟨v, w, E, .inl h, hv, by rw [hu]; exact H, Fr.refl E w, fun _ hi => .inl hi⟩

theorem OpOk.push {o : Oper} {e : Eff} {v : Value} (H : HR E L w) (hm : (E m).st = .dead) {t : Ty} {xs : List t.I} {cs : Array Value} {T : TypeId} {one : Bool} (hx : LR (CR E t) xs cs.toList)
    (h : (execOp ρc o).run P w = .ok (.value v) (pushW w cs T)) (hu : e.upd = [(m, some ⟨false, one, t, xs⟩)]) (hv : SR (updE E m ⟨w.heap.size, 0, cs.size, .real, true⟩) e.v v) : OpOk P ρc o m E L w e := by
  obtain ⟨h1, h2, h3⟩ := push_ok (T := T) (one := one) H hm hx
  refine ⟨v, _, _, .inl h, hv, by rw [hu]; exact h1, h2, fun i hi => ?_⟩
  rcases h3 i hi with h | h
  · exact .inl h
  · exact .inr ⟨by rw [hu, h]; simp, Nat.le_of_eq h.symm⟩

omit [GTab] in
theorem newPtr {t : Ty} {l : Loc} (hl : l.st = .real) (hb : l.base = 0) : AR (updE E m l) ⟨.ref .ptr, .ptr m t [0]⟩ (.pointer (some ⟨l.blk, 0, none⟩)) := by
  refine AR.mkRef ?_ rfl
  simp only [VR, updE, if_true, hl, hb, offp]
  simp

omit [GTab] in
theorem LR.one {α : Type} {R : α → List Value → Prop} {x : α} {cs : List Value} (h : R x cs) : LR R [x] cs := ⟨cs, [], by simp, h, rfl⟩

section
variable (T : TypeId) (ty : TypeId) (pos : String) (after : Array Edge) (gu : Option (Nat × Bool)) (dst : Option Tmp)

include gd in
theorem alloc_ok (H : HR E L w) (hm : (E m).st = .dead) {e : Eff} (ρ : Operand → SV) (he : opE D ρ L m (.alloc T) = some e) :
    OpOk P ρc ⟨dst, .alloc T, ty, pos, after, gu⟩ m E L w e := by
  simp only [opE, Option.map_eq_some_iff] at he
  obtain ⟨t, ht, rfl⟩ := he
  obtain ⟨z, hz, ha⟩ := run_zero gd ht w
  refine OpOk.push (cs := z.cells) (T := T) H hm (LR.one (ha E).cells) (v := .pointer (some ⟨w.heap.size, 0, none⟩)) ?_ rfl (newPtr (E := E) (l := ⟨w.heap.size, 0, _, .real, true⟩) rfl rfl)
  simp [execOp, Instr.alloc, hz, newVar, run_newRow]

theorem box_ok (H : HR E L w) (hm : (E m).st = .dead) {e : Eff} {ρ : Operand → SV} (hρ : ∀ x, SR E (ρ x) (ρc x)) {x : Operand} (he : opE D ρ L m (.box T x) = some e) (hp : allP e.pre) :
    OpOk P ρc ⟨dst, .box T x, ty, pos, after, gu⟩ m E L w e := by
  simp only [opE, Option.bind_eq_some_iff, Option.map_eq_some_iff] at he
  obtain ⟨t, ht, ⟨ps, a⟩, hv, y, hy, rfl⟩ := he
  have := SV.val_ok hv hp (hρ x)
  have ea := AV.as_eq hy
  subst ea
  refine OpOk.push (cs := (ρc x).cells) (T := T) H hm (LR.one this.cells) (v := .pointer (some ⟨w.heap.size, 0, none⟩)) ?_ rfl (newPtr (E := E) (l := ⟨w.heap.size, 0, _, .real, true⟩) rfl rfl)
  simp [execOp, Instr.box, newVar, run_newRow]

omit [GTab] in
/-- A place in a block: the cells there. -/
theorem Blk.rd_ok {l : Loc} {b : Blk} (hb : BR l E b w) (hr : l.st = .real) {p : List Nat} {ps : List Prop} {a : AV} (h : b.rd p = some (ps, a)) (hp : allP ps) :
    ∃ cs T fr A B C, w.heap[l.blk]? = some (.cells cs T fr) ∧ cs.toList = A ++ B ++ C ∧ A.length = l.base + offp p (.arr 0 b.t) ∧ CR E a.t a.x B ∧ subt p (.arr 0 b.t) = some a.t := by
  match p with
  | [] => simp [Blk.rd] at h
  | i :: p =>
    simp only [Blk.rd] at h
    split at h
    · cases h
    rename_i hmm
    simp only [Option.map_eq_some_iff, Prod.mk.injEq] at h
    obtain ⟨a', h1, rfl, rfl⟩ := h
    rw [allP_append] at hp
    have hb := hb.cells hr hmm
    obtain ⟨cs, T, fr, hh, hsz, ⟨front, cells, rest, e1, e2, e3⟩, _⟩ := hb
    obtain ⟨c1, c2, c3, f1, f2, f3, _⟩ := LR.at (fun x c hx => CR.len b.t x c hx) b.t.dflt b.xs cells i e3 (rowIn_lt hp.1)
    rw [rowGet_eq] at h1
    obtain ⟨d1, d2, d3, g1, g2, g3, g4⟩ := rdp_ok p ⟨b.t, b.xs.getD i b.t.dflt⟩ _ c2 h1 hp.2 f3
    refine ⟨cs, T, fr, front ++ c1 ++ d1, d2, d3 ++ c3 ++ rest, hh, by rw [e1, f1, g1]; simp, ?_, g3, by simpa [subt] using g4⟩
    simp only [List.length_append, e2, f2, g2, offp]
    omega

omit [GTab] in
theorem Blk.wr_ok {l : Loc} {b b' : Blk} (hb : BR l E b w) (hr : l.st = .real) {p : List Nat} {ps : List Prop} {y : AV} (h : b.wr y p = some (ps, b')) (hp : allP ps) :
    ∃ cs T fr A B C, w.heap[l.blk]? = some (.cells cs T fr) ∧ cs.toList = A ++ B ++ C ∧ A.length = l.base + offp p (.arr 0 b.t) ∧ B.length = y.t.size ∧ subt p (.arr 0 b.t) = some y.t ∧
      (∀ j, l.base ≤ j → j < cs.size → ¬ (fr.1 ≤ j ∧ j < fr.2)) ∧ (b'.t = b.t ∧ l.rw = true) ∧
      ∀ c w', CR E y.t y.x c → w'.heap[l.blk]? = some (.cells (A ++ c ++ C).toArray T fr) → BR l E b' w' := by
  match p with
  | [] => simp [Blk.wr] at h
  | i :: p =>
    simp only [Blk.wr] at h
    split at h
    · cases h
    · rename_i hro
      simp only [Option.map_eq_some_iff, Prod.mk.injEq] at h
      obtain ⟨z, h1, rfl, rfl⟩ := h
      rw [allP_append] at hp
      have hb := hb.cells hr (Blk.notMap hro)
      obtain ⟨cs, T, fr, hh, hsz, ⟨front, cells, rest, e1, e2, e3⟩, hf⟩ := hb
      obtain ⟨c1, c2, c3, f1, f2, f3, f4⟩ := LR.at (fun x c hx => CR.len b.t x c hx) b.t.dflt b.xs cells i e3 (rowIn_lt hp.1)
      rw [rowGet_eq] at h1
      obtain ⟨d1, d2, d3, g1, g2, g3, g4, g5⟩ := wrp_ok p ⟨b.t, b.xs.getD i b.t.dflt⟩ y z c2 h1 hp.2 f3
      refine ⟨cs, T, fr, front ++ c1 ++ d1, d2, d3 ++ c3 ++ rest, hh, by rw [e1, f1, g1]; simp, ?_, g3, by simpa [subt] using g4, (hf hro).2, ⟨rfl, (hf hro).1⟩, fun c w' hc hw => ?_⟩
      · simp only [List.length_append, e2, f2, g2, offp]
        omega
      · refine BR.ofCells ?_ hr (Blk.notMap rfl)
        have hcl := CR.len _ _ _ hc
        refine ⟨_, T, fr, hw, ?_, ⟨front, c1 ++ (d1 ++ c ++ d3) ++ c3, rest, by simp, e2, ?_⟩, fun _ => ⟨(hf hro).1, fun o h1 h2 => (hf hro).2 o h1 ?_⟩⟩
        · rw [hsz, ← Array.length_toList, e1, f1, g1]; simp; omega
        · rw [rowSet_eq]; exact f4 z _ (g5 c hc)
        · have : cs.size = (front ++ c1 ++ d1 ++ c ++ (d3 ++ c3 ++ rest)).length := by
            rw [← Array.length_toList, e1, f1, g1]; simp; omega
          rw [this]; simpa using h2

omit [GTab] in
theorem offp_snoc : ∀ (p : List Nat) (t : Ty) (n : Nat) (u : Ty) (o : Nat), subt p t = some (.arr n u) → offp (p ++ [o]) t = offp p t + o * u.size
  | [], t, n, u, o, h => by
    simp only [subt, Option.some.injEq] at h; subst h; simp [offp]
  | i :: p, t, n, u, o, h => by
    by_cases ha : t.isArr = true
    · cases t <;> simp only [Ty.isArr, Bool.false_eq_true] at ha
      rename_i k t
      simp only [subt] at h
      simp only [List.cons_append, offp, offp_snoc p t n u o h]
      omega
    · have ha : t.isArr = false := by simpa using ha
      rw [subt_other ha] at h
      simp only [Option.bind_eq_some_iff] at h
      obtain ⟨b, hb, h⟩ := h
      simp only [List.cons_append, offp_other ha, hb, offp_snoc p b n u o h]
      exact (Nat.add_assoc _ _ _).symm

omit [GTab] in
/-- A row inside a block (or the block's own): its elements' cells. -/
theorem Blk.els_ok {l : Loc} {b : Blk} (hb : BR l E b w) (hr : l.st = .real) {p : List Nat} {t : Ty} {ps : List Prop} {ys : List t.I} (h : b.els p t = some (ps, ys)) (hp : allP ps) :
    ∃ cs T fr A B C, w.heap[l.blk]? = some (.cells cs T fr) ∧ cs.toList = A ++ B ++ C ∧ A.length = l.base + offp p (.arr 0 b.t) ∧ LR (CR E t) ys B ∧
      (∀ o, offp (p ++ [o]) (.arr 0 b.t) = offp p (.arr 0 b.t) + o * t.size) ∧ l.base + l.csz = cs.size ∧
      (b.ro = false → ∀ j, l.base ≤ j → j < cs.size → ¬ (fr.1 ≤ j ∧ j < fr.2)) := by
  unfold Blk.els at h
  split at h
  · cases h
  rename_i hmm
  have hb0 := hb.cells hr hmm
  obtain ⟨cs, T, fr, hh, hsz, ⟨front, cells, rest, e1, e2, e3⟩, hf⟩ := hb0
  split at h
  · simp only [Option.map_eq_some_iff, Prod.mk.injEq] at h
    obtain ⟨l', h1, rfl, rfl⟩ := h
    have := AV.as_eq h1
    simp only [AV.mk.injEq, Ty.arr.injEq, true_and] at this
    obtain ⟨ht, hx⟩ := this
    subst ht
    cases hx
    exact ⟨cs, T, fr, front, cells, rest, hh, e1, by simp [offp, e2], e3, fun o => by simp [offp], hsz, fun h => (hf h).2⟩
  · rename_i i p'
    simp only [Option.bind_eq_some_iff] at h
    obtain ⟨a, h1, h⟩ := h
    split at h
    · rename_i n u ys'
      simp only [Option.map_eq_some_iff, Prod.mk.injEq] at h
      obtain ⟨l', h2, rfl, rfl⟩ := h
      have := AV.as_eq h2
      simp only [AV.mk.injEq, Ty.arr.injEq, true_and] at this
      obtain ⟨ht, hx⟩ := this
      subst ht
      cases hx
      obtain ⟨cs', T', fr', A, B, C, q1, q2, q3, q4, q5⟩ := Blk.rd_ok (p := i :: p') (ps := rowIn b.one b.xs i ++ okp p' b.t) (a := ⟨.arr n u, ys'⟩) hb hr (by simp [Blk.rd, h1, hmm]) hp
      rw [hh] at q1
      cases q1
      exact ⟨cs, T, fr, A, B, C, hh, q2, q3, q4.2, fun o => offp_snoc _ _ _ _ _ q5, hsz, fun h => (hf h).2⟩
    · cases h

omit [GTab] in
theorem Blk.els_arr {l : Loc} {b : Blk} (hb : BR l E b w) (hr : l.st = .real) {i : Nat} {p : List Nat} {t u : Ty} {n : Nat} {ps : List Prop} {ys : List t.I} (h : b.els (i :: p) t = some (ps, ys)) (hp : allP ps) (hs : subt p b.t = some (.arr n u)) : ys.length = n := by
  unfold Blk.els at h
  split at h
  · cases h
  rename_i hmm
  simp only [Option.bind_eq_some_iff] at h
  obtain ⟨a, h1, h⟩ := h
  split at h
  · rename_i n' u' ys'
    simp only [Option.map_eq_some_iff, Prod.mk.injEq] at h
    obtain ⟨l', h2, rfl, rfl⟩ := h
    have := AV.as_eq h2
    simp only [AV.mk.injEq, Ty.arr.injEq, true_and] at this
    obtain ⟨ht, hx⟩ := this
    subst ht
    cases hx
    obtain ⟨cs', T', fr', A, B, C, q1, q2, q3, q4, q5⟩ := Blk.rd_ok (p := i :: p) (ps := rowIn b.one b.xs i ++ okp p b.t) (a := ⟨.arr n' u', ys'⟩) hb hr (by simp [Blk.rd, h1, hmm]) hp
    rw [show subt (i :: p) (.arr 0 b.t) = subt p b.t from rfl, hs] at q5
    simp only [Option.some.injEq, Ty.arr.injEq] at q5
    obtain ⟨rfl, _⟩ := q5
    exact q4.1
  · cases h

omit [GTab] in
theorem Blk.els_seg {l : Loc} {b : Blk} (hb : BR l E b w) (hr : l.st = .real) {p : List Nat} {t : Ty} {ps : List Prop} {ys : List t.I} (h : b.els p t = some (ps, ys)) (hp : allP ps) {o n : Nat} (ho : o + n ≤ ys.length) :
    ∃ cs T fr A B C, w.heap[l.blk]? = some (.cells cs T fr) ∧ cs.toList = A ++ B ++ C ∧ A.length = l.base + offp (p ++ [o]) (.arr 0 b.t) ∧ LR (CR E t) (seg ys o n) B := by
  obtain ⟨cs, T, fr, A, B, C, q1, q2, q3, q4, q5, _, _⟩ := Blk.els_ok hb hr h hp
  have hlen := LR.len (fun x c hx => CR.len t x c hx) _ _ q4
  have s1 := (LR.split (fun x c hx => CR.len t x c hx) ys B o q4 (by omega)).2
  have s2 := (LR.split (fun x c hx => CR.len t x c hx) _ _ n s1 (by simp; omega)).1
  refine ⟨cs, T, fr, A ++ B.take (o * t.size), (B.drop (o * t.size)).take (n * t.size), (B.drop (o * t.size)).drop (n * t.size) ++ C, q1, ?_, ?_, s2⟩
  · rw [q2]
    conv => lhs; rw [← List.take_append_drop (o * t.size) B]
    conv => lhs; rw [← List.take_append_drop (n * t.size) (B.drop (o * t.size))]
    simp only [List.append_assoc]
  · rw [q5, List.length_append, q3, List.length_take, hlen]
    have : o * t.size ≤ ys.length * t.size := Nat.mul_le_mul_right _ (by omega)
    omega

include gd in
omit [GTab] in
theorem run_loadVar {T : TypeId} {t : Ty} (ht : D.ty T = some t) {g o : Nat} {cs : Array Value} {S : TypeId} {fr : Nat × Nat} {A B C : List Value} {x : t.I} (h : w.heap[g]? = some (.cells cs S fr))
    (e : cs.toList = A ++ B ++ C) (ha : A.length = o) (hb : CR E t x B) : ∃ v, (loadVar T ⟨g, o, none⟩).run P w = .ok v w ∧ AR E ⟨t, x⟩ v := by
  have hl := CR.len _ _ _ hb
  simp only [loadVar, Sem.run_bind, run_isAgg gd ht, Result.andThen_ok, Sem.run_ite, run_sizeOf gd ht, run_loadCells P h e ha hl, Sem.run_pure]
  by_cases hg : t.agg = true
  · refine ⟨_, if_pos hg, ?_⟩
    unfold AR
    simp only [hg]
    exact ⟨_, rfl, hb⟩
  · have hg' : t.agg = false := by simpa using hg
    have h1 : t.size = 1 := by
      cases t <;> simp [Ty.agg] at hg' <;> rfl
    match B, hl with
    | [b], _ =>
      refine ⟨b, ?_, ?_⟩
      · rw [if_neg hg]
        have : w.cell? ⟨g, o, none⟩ = some b := by
          rw [cell_of_row w g o cs S fr h, ← Array.getElem?_toList, e, ← ha]; simp
        simp [this]
      · unfold AR
        simp only [hg']
        exact hb
    | [], hl => simp [h1] at hl
    | _ :: _ :: _, hl => simp [h1] at hl

omit [GTab] in
theorem LR.at1 {α : Type} {R : α → List Value → Prop} (h1 : ∀ x c, R x c → c.length = 1) (d : α) : ∀ (l : List α) (cs : List Value) (k : Nat), LR R l cs → k < l.length → ∃ A B C, cs = A ++ B ++ C ∧ A.length = k ∧ R (l.getD k d) B
  | [], _, _, _, h => by simp at h
  | x :: l, _, 0, h, _ => by
    obtain ⟨c1, c2, rfl, q1, _⟩ := h
    exact ⟨[], c1, c2, rfl, rfl, q1⟩
  | x :: l, _, k + 1, h, hk => by
    obtain ⟨c1, c2, rfl, q1, q2⟩ := h
    obtain ⟨A, B, C, rfl, e2, e3⟩ := LR.at1 h1 d l c2 k q2 (by simpa using hk)
    exact ⟨c1 ++ A, B, C, by simp, by rw [List.length_append, h1 _ _ q1, e2]; omega, e3⟩

include gd in
theorem load_ok (hgv : ∀ g, ρc (.global g) = .pointer (some ⟨g, 0, none⟩)) (H : HR E L w) {e : Eff} {ρ : Operand → SV} (hρ : ∀ x, SR E (ρ x) (ρc x)) {x : Operand} (he : opE D ρ L m (.load T x) = some e) (hp : allP e.pre) :
    OpOk P ρc ⟨dst, .load T x, ty, pos, after, gu⟩ m E L w e := by
  simp only [opE] at he
  split at he
  · rename_i g
    simp only [Option.bind_eq_some_iff] at he
    obtain ⟨a, hg, he⟩ := he
    split at he
    · rename_i hT
      cases he
      simp only [decide_eq_true_eq] at hT
      obtain ⟨⟨cs, S, fr, h1, h2⟩, _⟩ := H.gl g a hg
      obtain ⟨v, hrun, hav⟩ := run_loadVar (w := w) gd hT h1 (o := 0) (A := []) (B := cs.toList) (C := []) (by simp) rfl (h2 E)
      refine OpOk.same H (v := v) ?_ hav rfl
      simp [execOp, Instr.loadAt, Instr.sureAddr, hgv, hrun]
    · cases he
  split at he
  · rename_i g k hx
    simp only [Option.bind_eq_some_iff] at he
    obtain ⟨a, hg, he⟩ := he
    split at he
    · rename_i n κ l
      split at he
      · rename_i hT
        cases he
        simp only [decide_eq_true_eq] at hT
        have hv := hρ x
        rw [hx] at hv
        have hv : ρc x = .pointer (some ⟨g, k, none⟩) := hv
        have hk : k < n := hp
        obtain ⟨⟨cs, S, fr, h1, h2⟩, _⟩ := H.gl g _ hg
        have h3 := h2 E
        simp only [CR] at h3
        obtain ⟨hl, h4⟩ := h3
        obtain ⟨A, B, C, q1, q2, q3⟩ := LR.at1 (R := CR E (.int κ)) (fun x c hx => CR.len (.int κ) x c hx) (0 : Int) l cs.toList k h4 (by rw [hl]; exact hk)
        obtain ⟨v, hrun, hav⟩ := run_loadVar (w := w) gd hT h1 q1 q2 q3
        refine OpOk.same H (v := v) ?_ hav rfl
        simp [execOp, Instr.loadAt, Instr.sureAddr, hv, hrun]
      · cases he
    · cases he
  simp only [Option.bind_eq_some_iff, Option.map_eq_some_iff] at he
  obtain ⟨⟨ps, r⟩, hr, e', he', rfl⟩ := he
  dsimp only at he' hp ⊢
  simp only [allP_append] at hp
  obtain ⟨hv, hna⟩ := svR_ok hr hp.1 (hρ x)
  unfold loadE at he'
  split at he'
  · rename_i b t p
    simp only [Option.bind_eq_some_iff] at he'
    obtain ⟨k, hk, ⟨qs, a⟩, ha, he'⟩ := he'
    split at he'
    · rename_i h1 h2
      cases he'
      simp only [decide_eq_true_eq] at h1 h2
      subst h1
      simp only [VR] at hv
      obtain ⟨hst, hv⟩ := hv
      obtain ⟨cs, S, fr, A, B, C, q1, q2, q3, q4, _⟩ := Blk.rd_ok (H.blk b k hk) hst ha hp.2
      obtain ⟨v, hrun, hav⟩ := run_loadVar gd h2 q1 q2 q3 q4
      refine OpOk.same H (v := v) ?_ hav rfl
      simp [execOp, Instr.loadAt, Instr.sureAddr, hv, hrun]
    · cases he'
  · rename_i b t p o n
    simp only [Option.bind_eq_some_iff] at he'
    obtain ⟨k, hk, he'⟩ := he'
    split at he'
    · rename_i m' u hT
      simp only [Option.bind_eq_some_iff] at he'
      obtain ⟨⟨qs, l⟩, hl, he'⟩ := he'
      split at he'
      · rename_i h1 h2
        cases he'
        simp only [decide_eq_true_eq] at h1 h2
        subst h1 h2
        simp only [VR] at hv
        obtain ⟨hst, hv⟩ := hv
        simp only [allP_append, allP] at hp
        obtain ⟨cs, S, fr, A, B, C, q1, q2, q3, q4⟩ := Blk.els_seg (H.blk b k hk) hst hl hp.2.1 hp.2.2
        have q5 : CR E (.arr m' u) (seg l o m') B := ⟨by simp [seg]; omega, q4⟩
        obtain ⟨v, hrun, hav⟩ := run_loadVar gd hT q1 q2 q3 q5
        refine OpOk.same H (v := v) ?_ hav rfl
        simp [execOp, Instr.loadAt, Instr.sureAddr, hv, hrun]
      · cases he'
    · cases he'
  · cases he'

include gd in
theorem store_ok (H : HR E L w) {e : Eff} {ρ : Operand → SV} (hρ : ∀ x, SR E (ρ x) (ρc x)) {x y : Operand} (he : opE D ρ L m (.store T x y) = some e) (hp : allP e.pre) :
    OpOk P ρc ⟨dst, .store T x y, ty, pos, after, gu⟩ m E L w e := by
  simp only [opE, Option.bind_eq_some_iff] at he
  obtain ⟨⟨ps, r⟩, hr, ⟨qs, a⟩, ha, he⟩ := he
  split at he
  · rename_i hT
    simp only [Option.map_eq_some_iff] at he
    obtain ⟨e', he', rfl⟩ := he
    simp only [decide_eq_true_eq] at hT
    simp only [allP_append] at hp
    obtain ⟨hv, hna⟩ := svR_ok hr hp.1.1 (hρ x)
    have hav := SV.val_ok ha hp.1.2 (hρ y)
    unfold storeE at he'
    split at he'
    · rename_i b t p
      simp only [Option.bind_eq_some_iff] at he'
      obtain ⟨k, hk, ⟨rs, k'⟩, hk', he'⟩ := he'
      split at he'
      · rename_i h1
        cases he'
        simp only [decide_eq_true_eq] at h1
        subst h1
        simp only [VR] at hv
        obtain ⟨hst, hv⟩ := hv
        obtain ⟨cs, S, fr, A, B, C, q1, q2, q3, q4, q5, q6, q7, q8⟩ := Blk.wr_ok (H.blk b k hk) hst hk' hp.2
        have hc := hav.cells
        have hcl := CR.len _ _ _ hc
        obtain ⟨w', r1, r2, r3, r4, r5, r6, r7⟩ := run_storeCells P (E b).blk ((E b).base + offp p (.arr 0 k.t)) S fr (ρc y).cells.toList 0 w cs A B C q1 q2 (by simpa using q3) (by rw [q4, hcl])
          (CR.oneCell _ _ _ hc) (fun j hj hj' => q6 j (by omega) hj')
        refine ⟨undef, w', E, .inr ⟨?_, rfl⟩, trivial, H.put hk hst q7.2 (q8 _ _ hc r2) r3, Fr.ofPut hst q7.2 r4 r3 r5 r6 r7, fun _ hi => .inl hi⟩
        have hsz : (ρc y).cells.size = a.t.size := by rw [← Array.length_toList]; exact hcl
        simp [execOp, Instr.storeAt, Instr.sureAddr, hv, storeVar, run_sizeOf gd hT, hsz, r1]
      · cases he'
    · cases he'
  · cases he

end
end
end Go.SL

/- S-logic, part 9: operations on values. -/
namespace Go.SL
open Go
variable [GTab]

section
variable {P : Program} {D : TI} (gd : Good P D) {ρ : Operand → SV} {ρc : Operand → Value} {m : Nat} {E : Env} (hρ : ∀ x, SR E (ρ x) (ρc x)) {L : Nat → Option Blk} {w : World} (H : HR E L w)
  (ty : TypeId) (pos : String) (after : Array Edge) (gu : Option (Nat × Bool)) (dst : Option Tmp) {e : Eff}

include H hρ in
theorem move_ok (x : Operand) (he : opE D ρ L m (.move x) = some e) : OpOk P ρc ⟨dst, .move x, ty, pos, after, gu⟩ m E L w e := by
  simp only [opE, Option.some.injEq] at he; subst he
  exact OpOk.same H (v := ρc x) (by simp [execOp]) (hρ x) rfl

include H hρ in
theorem assign_ok (x : Operand) (he : opE D ρ L m (.assign x) = some e) : OpOk P ρc ⟨dst, .assign x, ty, pos, after, gu⟩ m E L w e := by
  simp only [opE, Option.some.injEq] at he; subst he
  exact OpOk.same H (v := ρc x) (by simp [execOp]) (hρ x) rfl

omit [GTab] in
theorem guardP_ok {c w : Bool} {ps : List Prop} (h : allP (guardP c w ps)) (e : c = w) : allP ps := by
  unfold guardP at h
  split at h
  · trivial
  · exact h e

include H hρ in
theorem pick_ok (c a b : Operand) (he : opE D ρ L m (.pick c a b) = some e) (hp : allP e.pre) : OpOk P ρc ⟨dst, .pick c a b, ty, pos, after, gu⟩ m E L w e := by
  simp only [opE, Option.map_eq_some_iff, pickE, Option.bind_eq_some_iff] at he
  obtain ⟨o, ⟨⟨pc, cv⟩, h1, ⟨pa, av⟩, h2, ⟨pb, bv⟩, h3, h4⟩, rfl⟩ := he
  dsimp only at h4 hp
  split at h4
  · rename_i cc
    simp only [Option.map_eq_some_iff] at h4
    obtain ⟨y, hy, rfl⟩ := h4
    have := AV.as_eq hy
    subst this
    simp only [allP_append] at hp
    have hc := AR.bool (SV.val_ok h1 hp.1.1 (hρ c))
    refine OpOk.same H (v := if cc then ρc a else ρc b) ?_ ?_ rfl
    · simp [execOp, hc, asBool]
    · show AR E ⟨av.t, bif cc then av.x else y⟩ _
      cases cc
      · exact SV.val_ok h3 (guardP_ok hp.2 rfl) (hρ b)
      · exact SV.val_ok h2 (guardP_ok hp.1.2 rfl) (hρ a)
  · cases h4

include H hρ in
theorem nilCheck_ok (x : Operand) (he : opE D ρ L m (.nilCheck x) = some e) (hp : allP e.pre) : OpOk P ρc ⟨dst, .nilCheck x, ty, pos, after, gu⟩ m E L w e := by
  simp only [opE, Option.bind_eq_some_iff] at he
  obtain ⟨⟨ps, r⟩, hr, he⟩ := he
  dsimp only at he
  split at he
  · rename_i b t q
    cases he
    obtain ⟨hv, _⟩ := svR_ok hr hp (hρ x)
    have hv' := hv
    simp only [VR] at hv
    exact OpOk.same H (v := ρc x) (by simp [execOp, hv.2]) (AR.mkRef hv' rfl) rfl
  · rename_i f a c
    cases he
    obtain ⟨hv, _⟩ := svR_ok hr hp (hρ x)
    have hv' := hv
    simp only [VR] at hv
    obtain ⟨f', c', hv, _⟩ := hv
    exact OpOk.same H (v := ρc x) (by simp [execOp, hv]) (AR.mkRef hv' rfl) rfl
  · cases he

omit [GTab] in
theorem unE_ok {op : UnOp} {a v : AV} {u : Value} (h : unE op a = some v) (ha : AR E a u) : ∃ r, (Op.unary op u).run P w = .ok r w ∧ AR E v r := by
  unfold unE at h
  split at h
  · rename_i k x
    obtain ⟨rfl, _⟩ := AR.int ha
    split at h
    · cases h
      exact ⟨.int k (k.wrap (0 - x)), by simp [Op.unary, Op.intArith], AR.mkInt (wrap_range k _).1 (wrap_range k _).2⟩
    · cases h
      refine ⟨.int k (ixor k (if k.signed then -1 else k.max) x), by simp [Op.unary, Op.intBits, ixor], AR.mkInt ?_ ?_⟩
      · exact (wrap_range k _).1
      · exact (wrap_range k _).2
    · cases h
  · rename_i x
    have := AR.bool ha; subst this
    split at h
    · cases h
      exact ⟨.bool (!x), by simp [Op.unary], AR.mkBool⟩
    · cases h
  · cases h

include H hρ in
theorem unOp_ok (op : UnOp) (T : TypeId) (x : Operand) (he : opE D ρ L m (.unOp op T x) = some e) (hp : allP e.pre) : OpOk P ρc ⟨dst, .unOp op T x, ty, pos, after, gu⟩ m E L w e := by
  simp only [opE, Option.bind_eq_some_iff, Option.map_eq_some_iff] at he
  obtain ⟨⟨ps, a⟩, ha, v, hv, rfl⟩ := he
  obtain ⟨r, hr, hx⟩ := unE_ok (P := P) (w := w) hv (SV.val_ok ha hp (hρ x))
  exact OpOk.same H (v := r) (by simp [execOp, hr]) hx rfl

omit [GTab] in
theorem tmod_range {k : IntKind} {a b : Int} (h1 : k.min ≤ a) (h2 : a ≤ k.max) : k.min ≤ a.tmod b ∧ a.tmod b ≤ k.max := by
  have hz := min_le_zero k
  have hm := zero_le_max k
  rcases Int.le_total 0 a with h | h
  · have := Int.tmod_nonneg b h
    have h' : a.tmod b ≤ a := by
      rw [Int.tmod_eq_emod_of_nonneg h]
      rcases Int.lt_trichotomy b 0 with hb | hb | hb
      · have := Int.emod_lt_of_neg a hb
        have h3 := Int.emod_add_mul_ediv a b
        have h4 : 0 ≤ b * (a / b) := by
          have : a / b ≤ 0 := Int.ediv_nonpos_of_nonneg_of_nonpos h (Int.le_of_lt hb)
          exact Int.mul_nonneg_of_nonpos_of_nonpos (Int.le_of_lt hb) this
        omega
      · subst hb; simp
      · have h3 := Int.emod_add_mul_ediv a b
        have h4 : 0 ≤ b * (a / b) := Int.mul_nonneg (Int.le_of_lt hb) (Int.ediv_nonneg h (Int.le_of_lt hb))
        omega
    omega
  · have e : a.tmod b = -((-a).tmod b) := by rw [Int.neg_tmod]; omega
    have hn : 0 ≤ -a := by omega
    have := Int.tmod_nonneg b hn
    have h' : (-a).tmod b ≤ -a := by
      rw [Int.tmod_eq_emod_of_nonneg hn]
      rcases Int.lt_trichotomy b 0 with hb | hb | hb
      · have h3 := Int.emod_add_mul_ediv (-a) b
        have h4 : 0 ≤ b * (-a / b) := by
          have : -a / b ≤ 0 := Int.ediv_nonpos_of_nonneg_of_nonpos hn (Int.le_of_lt hb)
          exact Int.mul_nonneg_of_nonpos_of_nonpos (Int.le_of_lt hb) this
        omega
      · subst hb; simp
      · have h3 := Int.emod_add_mul_ediv (-a) b
        have h4 : 0 ≤ b * (-a / b) := Int.mul_nonneg (Int.le_of_lt hb) (Int.ediv_nonneg hn (Int.le_of_lt hb))
        omega
    omega

omit [GTab] in
theorem fdiv_range {k : IntKind} {a : Int} {n : Nat} (h1 : k.min ≤ a) (h2 : a ≤ k.max) : k.min ≤ a.fdiv (2 ^ n) ∧ a.fdiv (2 ^ n) ≤ k.max := by
  have hz := min_le_zero k
  have hm := zero_le_max k
  have hp : (0 : Int) < 2 ^ n := Int.pow_pos (by decide)
  have e : a.fdiv (2 ^ n) = a / 2 ^ n := Int.fdiv_eq_ediv_of_nonneg _ (Int.le_of_lt hp)
  rw [e]
  have h3 := Int.emod_add_mul_ediv a (2 ^ n)
  have h4 := Int.emod_nonneg a (Int.ne_of_gt hp)
  have h5 := Int.emod_lt_of_pos a hp
  rcases Int.le_total 0 a with h | h
  · have := Int.ediv_nonneg h (Int.le_of_lt hp)
    have h6 : a / 2 ^ n ≤ 2 ^ n * (a / 2 ^ n) := by
      have : 1 * (a / 2 ^ n) ≤ 2 ^ n * (a / 2 ^ n) := Int.mul_le_mul_of_nonneg_right hp this
      omega
    omega
  · have h6 : a ≤ a / 2 ^ n := by
      rw [Int.le_ediv_iff_mul_le hp]
      have : a * 2 ^ n ≤ a * 1 := Int.mul_le_mul_of_nonpos_left h hp
      omega
    have h7 : a / 2 ^ n ≤ 0 := by
      have := Int.ediv_le_ediv hp h
      simpa using this
    omega

omit [GTab] in
theorem eqGuard_int (op : BinOp) (T : TypeId) (x y : Operand) (k k' : IntKind) (a b : Int) : (eqGuard op T x y (.int k a) (.int k' b)).run P w = .ok () w := by
  cases op <;> simp [eqGuard]
omit [GTab] in
theorem eqGuard_bool (op : BinOp) (T : TypeId) (x y : Operand) (a b : Bool) : (eqGuard op T x y (.bool a) (.bool b)).run P w = .ok () w := by
  cases op <;> simp [eqGuard]
omit [GTab] in
theorem eqGuard_str (op : BinOp) (T : TypeId) (x y : Operand) (a b : ByteArray) : (eqGuard op T x y (.string a) (.string b)).run P w = .ok () w := by
  cases op <;> simp [eqGuard]

omit [GTab] in
theorem part_ok {T : TypeId} {t : Ty} (gd : Good P D) (ht : D.ty T = some t) {cs : Array Value} {A B C : List Value} {x : t.I} (e : cs.toList = A ++ B ++ C) (hb : CR E t x B) :
    ∃ v, (part T cs A.length).run P w = .ok v w ∧ AR E ⟨t, x⟩ v := by
  have hl := CR.len _ _ _ hb
  have hcs : cs = (A ++ B ++ C).toArray := by rw [← e]
  simp only [part, Sem.run_bind, run_isAgg gd ht, Result.andThen_ok, Sem.run_ite, run_sizeOf gd ht, Sem.run_pure]
  by_cases hg : t.agg = true
  · refine ⟨_, if_pos hg, ?_⟩
    unfold AR
    simp only [hg]
    refine ⟨_, rfl, ?_⟩
    have : (cs.extract A.length (A.length + t.size)).toList = B := by
      rw [hcs]; simp [hl]
    rw [this]; exact hb
  · have hg' : t.agg = false := by simpa using hg
    have h1 : t.size = 1 := by cases t <;> simp [Ty.agg] at hg' <;> rfl
    match B, hl with
    | [b], _ =>
      refine ⟨b, ?_, ?_⟩
      · rw [if_neg hg, hcs]; simp
      · unfold AR; simp only [hg']; exact hb
    | [], hl => simp [h1] at hl
    | _ :: _ :: _, hl => simp [h1] at hl

end
end Go.SL

/- S-logic, part 10: comparison, fields, indexes. -/
namespace Go.SL
open Go
variable [GTab]

section
variable {P : Program} {D : TI} (gd : Good P D) {ρ : Operand → SV} {ρc : Operand → Value} {m : Nat} {E : Env} (hρ : ∀ x, SR E (ρ x) (ρc x)) {L : Nat → Option Blk} {w : World} (H : HR E L w)
  (ty : TypeId) (pos : String) (after : Array Edge) (gu : Option (Nat × Bool)) (dst : Option Tmp) {e : Eff}

omit [GTab] in
theorem fields_at : ∀ (fs : List Field) (off : Nat) (t : Ty) (i : Nat) (a : Ty), fieldsOk D fs off t = true → t.fty i = some a →
    ∃ f, fs[i]? = some f ∧ D.ty f.type = some a ∧ f.offset = off + t.foff i
  | [f], off, .last b, 0, a, h, ha => by
    simp only [fieldsOk, Bool.and_eq_true, decide_eq_true_eq] at h
    simp only [Ty.fty, Option.some.injEq] at ha
    subst ha
    exact ⟨f, rfl, h.1, by simp [Ty.foff, h.2]⟩
  | [f], off, .last b, i + 1, a, h, ha => by simp [Ty.fty] at ha
  | f :: g :: fs, off, .cons b r, 0, a, h, ha => by
    simp only [fieldsOk, Bool.and_eq_true, decide_eq_true_eq] at h
    simp only [Ty.fty, Option.some.injEq] at ha
    subst ha
    exact ⟨f, rfl, h.1.1, by simp [Ty.foff, h.1.2]⟩
  | f :: g :: fs, off, .cons b r, i + 1, a, h, ha => by
    simp only [fieldsOk, Bool.and_eq_true, decide_eq_true_eq] at h
    simp only [Ty.fty] at ha
    obtain ⟨f', h1, h2, h3⟩ := fields_at (g :: fs) (off + b.size) r i a h.2 ha
    exact ⟨f', by simpa using h1, h2, by rw [h3]; simp [Ty.foff]; omega⟩
  | [], off, t, i, a, h, ha => by cases t <;> simp [fieldsOk] at h
  | [f], off, .cons b r, i, a, h, ha => by simp [fieldsOk] at h
  | f :: g :: fs, off, .last b, i, a, h, ha => by simp [fieldsOk] at h
  | f :: fs, off, .int _, i, a, h, ha => by simp [fieldsOk] at h
  | f :: fs, off, .bool, i, a, h, ha => by simp [fieldsOk] at h
  | f :: fs, off, .str, i, a, h, ha => by simp [fieldsOk] at h
  | f :: fs, off, .ref _, i, a, h, ha => by simp [fieldsOk] at h
  | f :: fs, off, .unit, i, a, h, ha => by simp [fieldsOk] at h
  | f :: fs, off, .arr .., i, a, h, ha => by simp [fieldsOk] at h

include gd in
omit [GTab] in
theorem struct_at {T : TypeId} {t a : Ty} {i : Nat} (ht : D.ty T = some t) (ha : t.fty i = some a) :
    ∃ fs f, P.underlying T = some (.struct fs) ∧ fs[i]? = some f ∧ D.ty f.type = some a ∧ f.offset = t.foff i := by
  obtain ⟨_, d, _, _, hd, _, _, _, hx⟩ := gd.info ht
  cases t <;> (first | (exfalso; revert ha; simp [Ty.fty]; done) | skip) <;> cases d <;> first | (exfalso; revert hx; simp [descOk]; done) | skip
  all_goals
    rename_i fs
    obtain ⟨f, h1, h2, h3⟩ := fields_at _ _ _ _ _ hx ha
    exact ⟨fs, f, hd, by simpa using h1, h2, by simpa using h3⟩

include gd in
omit [GTab] in
theorem arr_at {T : TypeId} {n : Nat} {t : Ty} (ht : D.ty T = some (.arr n t)) : ∃ e, P.underlying T = some (.array n e) ∧ D.ty e = some t := by
  obtain ⟨_, d, _, _, hd, _, _, _, hx⟩ := gd.info ht
  cases d <;> simp only [descOk, Bool.false_eq_true, Bool.and_eq_true, decide_eq_true_eq] at hx
  rename_i k e
  obtain ⟨rfl, h⟩ := hx
  exact ⟨e, hd, h⟩

/-! ### Equality -/

omit [GTab] in
theorem byteEq (x y : ByteArray) : (x == y) = decide (x = y) := by
  rw [beq_toListBytes]
  by_cases h : x = y
  · subst h; simp
  · have : x.toList ≠ y.toList := fun e => h (by
      have : x.data.toList = y.data.toList := by rw [← ByteArray.toList_eq, ← ByteArray.toList_eq]; exact e
      have := Array.toList_inj.1 this
      cases x; cases y; simp_all)
    simp [h, this]

include gd in
omit [GTab] in
theorem eqfs_ok (d : Nat) (ih : ∀ (T : TypeId) (t : Ty), D.ty T = some t → (t.agg = true → D.eqok T = true) → t.noRef = true → t.depth < d → ∀ (x y : t.I) (u v : Value), AR E ⟨t, x⟩ u → AR E ⟨t, y⟩ v →
      (Op.equalIn d T u v).run P w = .ok (t.eqb x y) w) :
    ∀ (fs : List Field) (off : Nat) (t : Ty) (x y : t.I) (xs ys : Array Value) (A A' B B' C C' : List Value), fieldsOk D fs off t = true → (∀ f ∈ fs, f.name ≠ "_" ∧ plainT D f.type = true) →
      t.noRef = true → t.depth < d + 1 → xs.toList = A ++ B ++ C → ys.toList = A' ++ B' ++ C' → A.length = off → A'.length = off → CR E t x B → CR E t y B' → (Op.eqFields d xs ys fs).run P w = .ok (t.eqb x y) w
  | [f], off, .last a, x, y, xs, ys, A, A', B, B', C, C', h, hf, hn, hd, e1, e2, l1, l2, c1, c2 => by
    simp only [fieldsOk, Bool.and_eq_true, decide_eq_true_eq] at h
    have hf1 := hf f (by simp)
    obtain ⟨u, hu, hu'⟩ := part_ok (w := w) gd h.1 e1 c1
    obtain ⟨v, hv, hv'⟩ := part_ok (w := w) gd h.1 e2 c2
    rw [l1, ← h.2] at hu
    rw [l2, ← h.2] at hv
    have := ih f.type a h.1 (fun hg => by have := hf1.2; simpa [plainT, h.1, hg] using this) hn (by simp only [Ty.depth] at hd; omega) x y u v hu' hv'
    simp only [Op.eqFields, ne_eq, hf1.1, not_false_eq_true, if_true, Sem.run_bind, hu, hv, this, Result.andThen_ok]
    show _ = Result.ok (a.eqb x y) w
    cases a.eqb x y <;> simp
  | f :: g :: fs, off, .cons a r, x, y, xs, ys, A, A', B, B', C, C', h, hf, hn, hd, e1, e2, l1, l2, c1, c2 => by
    simp only [fieldsOk, Bool.and_eq_true, decide_eq_true_eq] at h
    simp only [Ty.noRef, Bool.and_eq_true] at hn
    obtain ⟨p1, p2, f1, g1, g2⟩ := c1
    obtain ⟨q1, q2, f2, k1, k2⟩ := c2
    have hf1 := hf f (by simp)
    have n1 := CR.len _ _ _ g1
    have n2 := CR.len _ _ _ k1
    obtain ⟨u, hu, hu'⟩ := part_ok (w := w) gd h.1.1 (A := A) (B := p1) (C := p2 ++ C) (by rw [e1, f1]; simp) g1
    obtain ⟨v, hv, hv'⟩ := part_ok (w := w) gd h.1.1 (A := A') (B := q1) (C := q2 ++ C') (by rw [e2, f2]; simp) k1
    rw [l1, ← h.1.2] at hu
    rw [l2, ← h.1.2] at hv
    simp only [Ty.depth] at hd
    have := ih f.type a h.1.1 (fun hg => by have := hf1.2; simpa [plainT, h.1.1, hg] using this) hn.1 (by omega) x.1 y.1 u v hu' hv'
    have hrec := eqfs_ok d ih (g :: fs) (off + a.size) r x.2 y.2 xs ys (A ++ p1) (A' ++ q1) p2 q2 C C' h.2 (fun f' hf' => hf f' (List.mem_cons_of_mem _ hf')) hn.2 (by omega)
      (by rw [e1, f1]; simp) (by rw [e2, f2]; simp) (by rw [List.length_append, l1, n1]) (by rw [List.length_append, l2, n2]) g2 k2
    rw [Op.eqFields]
    simp only [ne_eq, hf1.1, not_false_eq_true, if_true, Sem.run_bind, hu, hv, this, Result.andThen_ok]
    show _ = Result.ok (a.eqb x.1 y.1 && r.eqb x.2 y.2) w
    cases a.eqb x.1 y.1
    · simp
    · simpa using hrec
  | [], off, t, x, y, xs, ys, A, A', B, B', C, C', h, _, _, _, _, _, _, _, _, _ => by cases t <;> simp [fieldsOk] at h
  | [f], off, .cons b r, x, y, xs, ys, A, A', B, B', C, C', h, _, _, _, _, _, _, _, _, _ => by simp [fieldsOk] at h
  | f :: g :: fs, off, .last b, x, y, xs, ys, A, A', B, B', C, C', h, _, _, _, _, _, _, _, _, _ => by simp [fieldsOk] at h
  | f :: fs, off, .int _, x, y, xs, ys, A, A', B, B', C, C', h, _, _, _, _, _, _, _, _, _ => by simp [fieldsOk] at h
  | f :: fs, off, .bool, x, y, xs, ys, A, A', B, B', C, C', h, _, _, _, _, _, _, _, _, _ => by simp [fieldsOk] at h
  | f :: fs, off, .str, x, y, xs, ys, A, A', B, B', C, C', h, _, _, _, _, _, _, _, _, _ => by simp [fieldsOk] at h
  | f :: fs, off, .ref _, x, y, xs, ys, A, A', B, B', C, C', h, _, _, _, _, _, _, _, _, _ => by simp [fieldsOk] at h
  | f :: fs, off, .unit, x, y, xs, ys, A, A', B, B', C, C', h, _, _, _, _, _, _, _, _, _ => by simp [fieldsOk] at h
  | f :: fs, off, .arr .., x, y, xs, ys, A, A', B, B', C, C', h, _, _, _, _, _, _, _, _, _ => by simp [fieldsOk] at h

include gd in
omit [GTab] in
theorem eq_ok : ∀ (d : Nat) (T : TypeId) (t : Ty), D.ty T = some t → (t.agg = true → D.eqok T = true) → t.noRef = true → t.depth < d → ∀ (x y : t.I) (u v : Value), AR E ⟨t, x⟩ u → AR E ⟨t, y⟩ v →
    (Op.equalIn d T u v).run P w = .ok (t.eqb x y) w
  | 0, T, t, _, _, _, hd, _, _, _, _, _, _ => by omega
  | d + 1, T, t, ht, he, hn, hd, x, y, u, v, hu, hv => by
    have ih := eq_ok d
    obtain ⟨i, ds, z, hi, hds, _, _, _, hx⟩ := gd.info ht
    cases t with
    | int k =>
      obtain ⟨rfl, _⟩ := AR.int hu
      obtain ⟨rfl, _⟩ := AR.int hv
      cases ds <;> simp only [descOk, Bool.false_eq_true] at hx
      rw [run_equalIn_int w d T k _ x y hds]
      congr 1
    | bool =>
      have := AR.bool hu; subst this
      have := AR.bool hv; subst this
      cases ds <;> simp only [descOk, Bool.false_eq_true] at hx
      rw [run_equalIn_bool' w d T x y hds]; rfl
    | str =>
      obtain ⟨rfl, _⟩ := AR.str hu
      obtain ⟨rfl, _⟩ := AR.str hv
      cases ds <;> simp only [descOk, Bool.false_eq_true] at hx
      have : (Op.equalIn (d + 1) T (.string x) (.string y)).run P w = .ok (x == y) w := by simp [Op.equalIn, run_underlying hds]
      rw [this]
      congr 1
      exact byteEq x y
    | ref k => simp [Ty.noRef] at hn
    | unit =>
      simp only [AR, Ty.agg] at hu hv
      obtain ⟨xs, rfl, hxs⟩ := hu
      obtain ⟨ys, rfl, hys⟩ := hv
      cases ds <;> simp only [descOk, Bool.false_eq_true] at hx
      rename_i fs
      have hq := gd.eq T
      simp only [chkEq, he rfl, Bool.not_true, Bool.false_or, Bool.and_eq_true, Bool.not_eq_true'] at hq
      have hfo : P.fieldsOf T = fs := by simp [Program.fieldsOf, hds]
      rw [run_equalIn_struct w d T xs ys (by rw [hfo]; exact hds) hq.1.2, hfo]
      have : fs.toList = [] := by simpa using hx
      simp [this, Op.eqFields, Ty.eqb]
    | last a =>
      simp only [AR, Ty.agg] at hu hv
      obtain ⟨xs, rfl, hxs⟩ := hu
      obtain ⟨ys, rfl, hys⟩ := hv
      cases ds <;> simp only [descOk, Bool.false_eq_true] at hx
      rename_i fs
      have hq := gd.eq T
      simp only [chkEq, he rfl, Bool.not_true, Bool.false_or, Bool.and_eq_true, Bool.not_eq_true', hds] at hq
      have hfo : P.fieldsOf T = fs := by simp [Program.fieldsOf, hds]
      rw [run_equalIn_struct w d T xs ys (by rw [hfo]; exact hds) hq.1.2, hfo]
      refine eqfs_ok gd d ih fs.toList 0 (.last a) x y xs ys [] [] xs.toList ys.toList [] [] hx ?_ hn hd (by simp) (by simp) rfl rfl hxs hys
      intro f hf
      have := List.all_eq_true.1 hq.2 f hf
      simpa using this
    | cons a r =>
      simp only [AR, Ty.agg] at hu hv
      obtain ⟨xs, rfl, hxs⟩ := hu
      obtain ⟨ys, rfl, hys⟩ := hv
      cases ds <;> simp only [descOk, Bool.false_eq_true] at hx
      rename_i fs
      have hq := gd.eq T
      simp only [chkEq, he rfl, Bool.not_true, Bool.false_or, Bool.and_eq_true, Bool.not_eq_true', hds] at hq
      have hfo : P.fieldsOf T = fs := by simp [Program.fieldsOf, hds]
      rw [run_equalIn_struct w d T xs ys (by rw [hfo]; exact hds) hq.1.2, hfo]
      refine eqfs_ok gd d ih fs.toList 0 (.cons a r) x y xs ys [] [] xs.toList ys.toList [] [] hx ?_ hn hd (by simp) (by simp) rfl rfl hxs hys
      intro f hf
      have := List.all_eq_true.1 hq.2 f hf
      simpa using this
    | arr n t =>
      simp only [AR, Ty.agg] at hu hv
      obtain ⟨xs, rfl, hxs⟩ := hu
      obtain ⟨ys, rfl, hys⟩ := hv
      obtain ⟨e, hue, hte⟩ := arr_at gd ht
      obtain ⟨ie, _, _, hie, _, hse, _, _, _⟩ := gd.info hte
      have hq := gd.eq T
      simp only [chkEq, he rfl, Bool.not_true, Bool.false_or, Bool.and_eq_true, Bool.not_eq_true', hue] at hq
      rw [run_equalIn_array (P := P) (w := w) d xs ys hue hie]
      have hco : P.cellsOf e = t.size := by simp [Program.cellsOf, hie, hse]
      rw [hco]
      simp only [Ty.eqb]
      have key : ∀ is : List Nat, (∀ i ∈ is, i < n) → (Op.eqItems d e t.size xs ys is).run P w = .ok (is.all fun i => t.eqb (List.getD x i t.dflt) (List.getD y i t.dflt)) w := by
        intro is
        induction is with
        | nil => intro _; simp [Op.eqItems]
        | cons j is ihs =>
          intro hj
          have hjn := hj j (by simp)
          obtain ⟨c1, c2, c3, e1, l1, r1, _⟩ := LR.at (fun x c hx => CR.len t x c hx) t.dflt x xs.toList j hxs.2 (by rw [hxs.1]; exact hjn)
          obtain ⟨d1, d2, d3, e2, l2, r2, _⟩ := LR.at (fun x c hx => CR.len t x c hx) t.dflt y ys.toList j hys.2 (by rw [hys.1]; exact hjn)
          obtain ⟨a, ha, ha'⟩ := part_ok (w := w) gd hte e1 r1
          obtain ⟨b, hb, hb'⟩ := part_ok (w := w) gd hte e2 r2
          rw [l1] at ha
          rw [l2] at hb
          have := ih e t hte (fun hg => by have := hq.2; simpa [plainT, hte, hg] using this) hn (by simp only [Ty.depth] at hd; omega) _ _ a b ha' hb'
          simp only [Op.eqItems, Sem.run_bind, ha, hb, this, Result.andThen_ok, List.all_cons]
          cases t.eqb (List.getD x j t.dflt) (List.getD y j t.dflt)
          · simp
          · simpa using ihs fun i hi => hj i (List.mem_cons_of_mem _ hi)
      exact key _ fun i hi => by simpa using hi

end
end Go.SL

/- S-logic, part 11: operators, fields, indexes, slices. -/
namespace Go.SL
open Go
variable [GTab]

section
variable {P : Program} {D : TI} (gd : Good P D) {ρ : Operand → SV} {ρc : Operand → Value} {m : Nat} {E : Env} (hρ : ∀ x, SR E (ρ x) (ρc x)) {L : Nat → Option Blk} {w : World} (H : HR E L w)
  (ty : TypeId) (pos : String) (after : Array Edge) (gu : Option (Nat × Bool)) (dst : Option Tmp) {e : Eff}

omit [GTab] in
theorem wf_int {k : IntKind} {r : Int} : AR E ⟨.int k, k.wrap r⟩ (.int k (k.wrap r)) := AR.mkInt (wrap_range k r).1 (wrap_range k r).2

include gd in
omit [GTab] in
theorem binE_ok {op : BinOp} {T : TypeId} {a b v : AV} {ps : List Prop} {u u' : Value} {x y : Operand} (h : binE D op T a b = some (ps, v)) (hp : allP ps) (ha : AR E a u) (hb : AR E b u') :
    ∃ r, ((do eqGuard op T x y u u'; binOp op T u u' : Sem Value)).run P w = .ok r w ∧ AR E v r := by
  unfold binE at h
  split at h
  · rename_i k i k' j
    obtain ⟨rfl, hi⟩ := AR.int ha
    obtain ⟨rfl, hj⟩ := AR.int hb
    simp only [Sem.run_bind, eqGuard_int, Result.andThen_ok]
    split at h
    · cases h
      have h0 : ¬ (j : Int) < 0 := Int.not_lt.2 hp
      exact ⟨.int k (ishl k i j), by simp [binOp, Op.shift, h0, ishl], wf_int⟩
    · cases h
      have h0 : ¬ (j : Int) < 0 := Int.not_lt.2 hp
      exact ⟨.int k (ishr k i j), by simp [binOp, Op.shift, h0, ishr], AR.mkInt (fdiv_range hi.1 hi.2).1 (fdiv_range hi.1 hi.2).2⟩
    · split at h
      · rename_i hk; subst hk
        split at h
        · cases h; exact ⟨_, by simp [binOp, Op.intArith], wf_int⟩
        · cases h; exact ⟨_, by simp [binOp, Op.intArith], wf_int⟩
        · cases h; exact ⟨_, by simp [binOp, Op.intArith], wf_int⟩
        · cases h
          have h0 : j ≠ 0 := hp
          exact ⟨_, by simp [binOp, Op.intDiv, h0], wf_int⟩
        · cases h
          have h0 : j ≠ 0 := hp
          exact ⟨_, by simp [binOp, Op.intDiv, h0], AR.mkInt (tmod_range hi.1 hi.2).1 (tmod_range hi.1 hi.2).2⟩
        · cases h; exact ⟨_, by simp [binOp, Op.intBits], wf_int⟩
        · cases h; exact ⟨_, by simp [binOp, Op.intBits], wf_int⟩
        · cases h; exact ⟨_, by simp [binOp, Op.intBits], wf_int⟩
        · cases h; exact ⟨_, by simp [binOp, Op.intBits], wf_int⟩
        · cases h; exact ⟨.bool (decide (i = j)), by simp [binOp, Op.intCmp]; rfl, AR.mkBool⟩
        · cases h; exact ⟨.bool (!decide (i = j)), by simp [binOp, Op.intCmp]; rfl, AR.mkBool⟩
        · cases h; exact ⟨_, by simp [binOp, Op.intCmp], AR.mkBool⟩
        · cases h; exact ⟨_, by simp [binOp, Op.intCmp], AR.mkBool⟩
        · cases h; exact ⟨_, by simp [binOp, Op.intCmp], AR.mkBool⟩
        · cases h; exact ⟨_, by simp [binOp, Op.intCmp], AR.mkBool⟩
        · cases h
      · cases h
  · rename_i i j
    have := AR.bool ha; subst this
    have := AR.bool hb; subst this
    simp only [Sem.run_bind, eqGuard_bool, Result.andThen_ok]
    split at h
    · rename_i hT
      cases h
      obtain ⟨_, d, _, _, hd, _, _, _, hx⟩ := gd.info hT
      cases d <;> simp only [descOk, Bool.false_eq_true] at hx
      exact ⟨_, by simp [binOp, run_equal_bool w T i j hd], AR.mkBool⟩
    · rename_i hT
      cases h
      obtain ⟨_, d, _, _, hd, _, _, _, hx⟩ := gd.info hT
      cases d <;> simp only [descOk, Bool.false_eq_true] at hx
      exact ⟨_, by simp [binOp, run_equal_bool w T i j hd], AR.mkBool⟩
    · cases h
  · rename_i i j
    obtain ⟨rfl, hi⟩ := AR.str ha
    obtain ⟨rfl, hj⟩ := AR.str hb
    simp only [Sem.run_bind, eqGuard_str, Result.andThen_ok]
    split at h
    · cases h; exact ⟨.bool (decide (i = j)), by simp [binOp, Op.stringOp, (beq_toListBytes i j).symm.trans (byteEq i j)], AR.mkBool⟩
    · cases h; exact ⟨.bool (!decide (i = j)), by simp [binOp, Op.stringOp, (beq_toListBytes i j).symm.trans (byteEq i j)], AR.mkBool⟩
    · cases h
      have h0 : i.size + j.size ≤ 9223372036854775807 := hp
      refine ⟨.string (i ++ j), by simp [binOp, Op.stringOp]; omega, AR.mkStr ?_⟩
      rw [ByteArray.size_append]; exact h0
    · cases h
  · rename_i t a' t' b' _ _ _
    split at h
    · rename_i hc
      obtain ⟨rfl, hag, hnr, hT, heq, hdp⟩ := hc
      simp only [AR, hag] at ha hb
      obtain ⟨xs, rfl, hxs⟩ := ha
      obtain ⟨ys, rfl, hys⟩ := hb
      have hq := gd.eq T
      simp only [chkEq, heq, Bool.not_true, Bool.false_or, Bool.and_eq_true, Bool.not_eq_true'] at hq
      have key := eq_ok (P := P) (w := w) (E := E) gd 10000 T t' hT (fun _ => heq) hnr (by omega) a' b' (.agg xs) (.agg ys) (by simp only [AR, hag]; exact ⟨xs, rfl, hxs⟩) (by simp only [AR, hag]; exact ⟨ys, rfl, hys⟩)
      split at h
      · cases h
        exact ⟨_, by simp only [Sem.run_bind, run_eqGuard_agg w _ _ _ _ _ _ hq.1.1, Result.andThen_ok, run_eql_struct, key], AR.mkBool⟩
      · cases h
        exact ⟨_, by simp only [Sem.run_bind, run_eqGuard_agg w _ _ _ _ _ _ hq.1.1, Result.andThen_ok, run_neq_struct, key], AR.mkBool⟩
      · cases h
    · cases h


omit [GTab] in
theorem fty_agg {t a : Ty} {i : Nat} (h : t.fty i = some a) : t.agg = true ∧ t.isArr = false := by
  cases t <;> first | exact ⟨rfl, rfl⟩ | (exfalso; revert h; simp [Ty.fty]; done)

omit [GTab] in
theorem VR.mkPtr {b : Nat} {t : Ty} {p : List Nat} (h : (E b).st = .real) : VR E (.ptr b t p) (.pointer (some ⟨(E b).blk, (E b).base + offp p (.arr 0 t), none⟩)) := by
  unfold VR; exact ⟨h, rfl⟩

omit [GTab] in
theorem eqGuard_ref (op : BinOp) (T : TypeId) (x y : Operand) (u v : Value) (h1 : u ≠ .nilIface) (h2 : ∀ c, u ≠ .agg c) : (eqGuard op T x y u v).run P w = .ok () w := by
  cases op <;> cases u <;> cases v <;> first | exact absurd rfl h1 | exact absurd rfl (h2 _) | rfl | simp [eqGuard]

omit [GTab] in
theorem eqp1 (d : Nat) {T e1 : TypeId} (h : P.underlying T = some (.pointer e1)) (b : Option Addr) : (Op.equalIn (d + 1) T (.pointer none) (.pointer b)).run P w = .ok b.isNone w := by
  simp [Op.equalIn, run_underlying h]
omit [GTab] in
theorem eqp2 (d : Nat) {T e1 : TypeId} (h : P.underlying T = some (.pointer e1)) (a : Addr) : (Op.equalIn (d + 1) T (.pointer (some a)) (.pointer none)).run P w = .ok false w := by
  simp [Op.equalIn, run_underlying h]
omit [GTab] in
theorem eqf0 (d : Nat) {T : TypeId} {a b : Array TypeId} {c : Bool} (h : P.underlying T = some (.func a b c)) : (Op.equalIn (d + 1) T .nilFunc .nilFunc).run P w = .ok true w := by
  simp [Op.equalIn, run_underlying h]
omit [GTab] in
theorem eqf1 (d : Nat) {T : TypeId} {a b : Array TypeId} {c : Bool} (h : P.underlying T = some (.func a b c)) (f : Fn) (x y : Array Value) : (Op.equalIn (d + 1) T .nilFunc (.func f x y)).run P w = .ok false w := by
  simp [Op.equalIn, run_underlying h]
omit [GTab] in
theorem eqf2 (d : Nat) {T : TypeId} {a b : Array TypeId} {c : Bool} (h : P.underlying T = some (.func a b c)) (f : Fn) (x y : Array Value) : (Op.equalIn (d + 1) T (.func f x y) .nilFunc).run P w = .ok false w := by
  simp [Op.equalIn, run_underlying h]

omit [GTab] in
theorem eqs1 (d : Nat) {T e1 : TypeId} (h : P.underlying T = some (.slice e1)) (a : Addr) (n c : Nat) : (Op.equalIn (d + 1) T (.slice (some a) n c) (.slice none 0 0)).run P w = .ok false w := by
  simp [Op.equalIn, run_underlying h]

include gd H hρ in
theorem binOp_ok (op : BinOp) (T U : TypeId) (x y : Operand) (he : opE D ρ L m (.binOp op T x y U) = some e) (hp : allP e.pre) : OpOk P ρc ⟨dst, .binOp op T x y U, ty, pos, after, gu⟩ m E L w e := by
  simp only [opE, Option.bind_eq_some_iff] at he
  obtain ⟨⟨ps, a⟩, ha, ⟨qs, b⟩, hb, he⟩ := he
  dsimp only at he
  split at he
  · rename_i k1 a k2 b
    split at he
    · rename_i k hT
      have key : ∀ c r, Ref.isNilOf k a b = some (c, r) → allP c → allP ps → allP qs → (∀ o, (eqGuard o T x y (ρc x) (ρc y)).run P w = .ok () w) ∧
          (binOp .eql T (ρc x) (ρc y)).run P w = .ok (.bool r) w ∧ (binOp .neq T (ρc x) (ρc y)).run P w = .ok (.bool (!r)) w := by
        intro c r hr hc h1 h2
        have hva := (AR.ref (SV.val_ok ha h1 (hρ x))).1
        have hvb := (AR.ref (SV.val_ok hb h2 (hρ y))).1
        generalize ρc x = u at hva
        generalize ρc y = v at hvb
        obtain ⟨_, d, _, _, hd, _, _, _, hx⟩ := gd.info hT
        have fin : ∀ (hg : ∀ o, (eqGuard o T x y u v).run P w = .ok () w) (h : (Op.equalIn (9999 + 1) T u v).run P w = .ok r w)
            (h1 : binOp .eql T u v = (do pure (.bool (← Op.equal T u v)) : Sem Value)) (h2 : binOp .neq T u v = (do pure (.bool (!(← Op.equal T u v))) : Sem Value)),
            (∀ o, (eqGuard o T x y u v).run P w = .ok () w) ∧ (binOp .eql T u v).run P w = .ok (.bool r) w ∧ (binOp .neq T u v).run P w = .ok (.bool (!r)) w := by
          intro hg h h1 h2
          have h' : (Op.equal T u v).run P w = .ok r w := h
          refine ⟨hg, ?_, ?_⟩
          · rw [h1]; simp only [Sem.run_bind, h', Result.andThen_ok, Sem.run_pure]
          · rw [h2]; simp only [Sem.run_bind, h', Result.andThen_ok, Sem.run_pure]
        unfold Ref.isNilOf at hr
        split at hr <;> cases hr <;> simp only [VR] at hva hvb
        · cases d <;> simp only [descOk, Bool.false_eq_true] at hx
          subst hva hvb
          exact fin (fun o => eqGuard_ref _ _ _ _ _ _ (by simp) (by simp)) (eqp1 9999 hd _) rfl rfl
        · cases d <;> simp only [descOk, Bool.false_eq_true] at hx
          obtain ⟨_, hvb⟩ := hvb
          subst hva hvb
          exact fin (fun o => eqGuard_ref _ _ _ _ _ _ (by simp) (by simp)) (eqp1 9999 hd _) rfl rfl
        · cases d <;> simp only [descOk, Bool.false_eq_true] at hx
          obtain ⟨_, hva⟩ := hva
          subst hva hvb
          exact fin (fun o => eqGuard_ref _ _ _ _ _ _ (by simp) (by simp)) (eqp2 9999 hd _) rfl rfl
        · cases d <;> simp only [descOk, Bool.false_eq_true] at hx
          subst hva hvb
          exact fin (fun o => eqGuard_ref _ _ _ _ _ _ (by simp) (by simp)) (eqf0 9999 hd) rfl rfl
        · cases d <;> simp only [descOk, Bool.false_eq_true] at hx
          obtain ⟨f', c', hvb, _⟩ := hvb
          subst hva hvb
          exact fin (fun o => eqGuard_ref _ _ _ _ _ _ (by simp) (by simp)) (eqf1 9999 hd _ _ _) rfl rfl
        · cases d <;> simp only [descOk, Bool.false_eq_true] at hx
          obtain ⟨f', c', hva, _⟩ := hva
          subst hva hvb
          exact fin (fun o => eqGuard_ref _ _ _ _ _ _ (by simp) (by simp)) (eqf2 9999 hd _ _ _) rfl rfl
        · cases d <;> simp only [descOk, Bool.false_eq_true] at hx
          simp only [allP] at hc
          rcases hva with ⟨_, h0, _, _⟩ | ⟨_, cap, ad, hva, _⟩
          · omega
          · subst hva hvb
            exact fin (fun o => eqGuard_ref _ _ _ _ _ _ (by simp) (by simp)) (eqs1 9999 hd _ _ _) rfl rfl
      split at he
      · rename_i c r hr
        cases he
        simp only [Eff.pure, allP_append] at hp
        obtain ⟨e1, e2, e3⟩ := key c r hr hp.2 hp.1.1 hp.1.2
        refine OpOk.same H (v := .bool r) ?_ (AR.mkBool (E := E)) rfl
        simp [execOp, e1, e2]
      · rename_i c r hr
        cases he
        simp only [Eff.pure, allP_append] at hp
        obtain ⟨e1, e2, e3⟩ := key c r hr hp.2 hp.1.1 hp.1.2
        refine OpOk.same H (v := .bool (!r)) ?_ (AR.mkBool (E := E)) rfl
        simp [execOp, e1, e3]
      · cases he
    · cases he
  · simp only [Option.map_eq_some_iff] at he
    obtain ⟨⟨rs, v⟩, h1, rfl⟩ := he
    simp only [Eff.pure, allP_append] at hp
    obtain ⟨r, hr, hx⟩ := binE_ok (P := P) (w := w) (x := x) (y := y) gd h1 hp.2 (SV.val_ok ha hp.1.1 (hρ x)) (SV.val_ok hb hp.1.2 (hρ y))
    refine OpOk.same H (v := r) ?_ hx rfl
    simp only [execOp, Sem.run_bind, Sem.run_pure] at hr ⊢
    rw [hr]; rfl

include gd H hρ in
theorem field_ok (T : TypeId) (x : Operand) (f : Nat) (he : opE D ρ L m (.field T x f) = some e) (hp : allP e.pre) : OpOk P ρc ⟨dst, .field T x f, ty, pos, after, gu⟩ m E L w e := by
  simp only [opE, Option.bind_eq_some_iff] at he
  obtain ⟨⟨ps, a⟩, ha, he⟩ := he
  dsimp only at he
  split at he
  · rename_i hT
    simp only [Option.map_eq_some_iff] at he
    obtain ⟨b, hb, rfl⟩ := he
    simp only [decide_eq_true_eq] at hT
    have hv := SV.val_ok ha hp (hρ x)
    obtain ⟨c1, c2, c3, e1, l1, r1, ht⟩ := CR.fld a.t a.x f b _ hb hv.cells
    obtain ⟨fs, fd, hu, hf, hft, hfo⟩ := struct_at gd hT ht
    have hag : a.t.agg = true := (fty_agg ht).1
    simp only [AR, hag] at hv
    obtain ⟨cs, hc, hcr⟩ := hv
    rw [hc] at e1
    obtain ⟨v, hpv, hav⟩ := part_ok (P := P) (w := w) gd hft (cs := cs) (A := c1) (B := c2) (C := c3) e1 r1
    rw [l1, ← hfo] at hpv
    refine OpOk.same H (v := v) ?_ hav rfl
    simp [execOp, Instr.field, run_underlying hu, hf, hc, asAgg, hpv]
  · cases he

include H hρ in
theorem extract_ok (x : Operand) (i : Nat) (he : opE D ρ L m (.extract x i) = some e) : OpOk P ρc ⟨dst, .extract x i, ty, pos, after, gu⟩ m E L w e := by
  simp only [opE] at he
  split at he
  · rename_i l hl
    simp only [Option.map_eq_some_iff] at he
    obtain ⟨a, ha, rfl⟩ := he
    have := hρ x
    rw [hl] at this
    obtain ⟨vs, hv, hs⟩ := this
    have aux : ∀ (l : List AV) (vs : List Value) (i : Nat) (a : AV), ARs E l vs → l[i]? = some a → ∃ v, vs[i]? = some v ∧ AR E a v := by
      intro l
      induction l with
      | nil => intro vs i a _ h; simp at h
      | cons b l ih =>
        intro vs i a hs h
        obtain ⟨v, vs', rfl, h1, h2⟩ := hs
        cases i with
        | zero => simp at h; subst h; exact ⟨v, rfl, h1⟩
        | succ i => simpa using ih vs' i a h2 (by simpa using h)
    obtain ⟨v, hv1, hv2⟩ := aux l vs.toList i a hs ha
    refine OpOk.same H (v := v) ?_ hv2 rfl
    have : vs[i]? = some v := by rw [← Array.getElem?_toList]; exact hv1
    simp [execOp, Instr.extract, hv, this]
  · cases he

include gd H hρ in
theorem fieldAddr_ok (T : TypeId) (x : Operand) (f : Nat) (he : opE D ρ L m (.fieldAddr T x f) = some e) (hp : allP e.pre) : OpOk P ρc ⟨dst, .fieldAddr T x f, ty, pos, after, gu⟩ m E L w e := by
  simp only [opE, Option.bind_eq_some_iff] at he
  obtain ⟨⟨ps, r⟩, hr, he⟩ := he
  dsimp only at he
  split at he
  · rename_i b t i q u hT
    split at he
    · rename_i w1 hs hf
      split at he
      · cases he
      · rename_i hz
        cases he
        simp only [decide_eq_true_eq, decide_eq_false_iff_not] at hs hz
        obtain ⟨hv, _⟩ := svR_ok hr hp (hρ x)
        simp only [VR] at hv
        obtain ⟨hst, hv⟩ := hv
        obtain ⟨fs, fd, hu, hfd, hft, hfo⟩ := struct_at gd hT hf
        refine OpOk.same H (v := .pointer (some ⟨(E b).blk, (E b).base + offp (i :: q ++ [f]) (.arr 0 t), none⟩)) ?_ (AR.mkRef (VR.mkPtr hst) rfl) rfl
        have hoff : offp (i :: q ++ [f]) (.arr 0 t) = offp (i :: q) (.arr 0 t) + fd.offset := by
          have aux : ∀ (q : List Nat) (t : Ty), subt q t = some u → offp (q ++ [f]) t = offp q t + u.foff f := by
            intro q
            induction q with
            | nil =>
              intro t h
              simp only [subt, Option.some.injEq] at h; subst h
              have hna : t.isArr = false := (fty_agg hf).2
              simp [offp_other hna, hf, offp]
            | cons j q ih =>
              intro t h
              by_cases ha : t.isArr = true
              · cases t <;> simp only [Ty.isArr, Bool.false_eq_true] at ha
                simp only [subt] at h
                simp only [List.cons_append, offp, ih _ h]
                omega
              · have ha : t.isArr = false := by simpa using ha
                rw [subt_other ha] at h
                simp only [Option.bind_eq_some_iff] at h
                obtain ⟨c, hc, h⟩ := h
                simp only [List.cons_append, offp_other ha, hc, ih c h]
                exact (Nat.add_assoc _ _ _).symm
          simp only [List.cons_append, offp, aux q t hs, hfo]
          omega
        simp [execOp, Instr.fieldAt, run_underlying hu, hfd, hv, Instr.sureAddr, fieldPlace, run_sizeOf gd hft, hz, Addr.add_spot, Nat.add_assoc]
        simpa using hoff.symm
    · cases he
  · cases he

include gd H hρ in
theorem indexAddr_ok (hgv : ∀ g, ρc (.global g) = .pointer (some ⟨g, 0, none⟩)) (T : TypeId) (x i : Operand) (he : opE D ρ L m (.indexAddr T x i) = some e) (hp : allP e.pre) : OpOk P ρc ⟨dst, .indexAddr T x i, ty, pos, after, gu⟩ m E L w e := by
  simp only [opE] at he
  split at he
  · rename_i g
    simp only [Option.bind_eq_some_iff] at he
    obtain ⟨⟨qs, j⟩, hj, a, hg, he⟩ := he
    dsimp only at he
    split at he
    · rename_i n κ l
      split at he
      · rename_i hT
        cases he
        simp only [decide_eq_true_eq] at hT
        obtain ⟨el, hue, hte⟩ := arr_at gd hT
        simp only [allP_append, allP] at hp
        obtain ⟨k, hi, _⟩ := svI_ok hj hp.1 (hρ i)
        have hn' := hp.2
        refine OpOk.same H (v := .pointer (some ⟨g, j.toNat, none⟩)) ?_ rfl rfl
        simp [execOp, Instr.indexAt, hi, asIntOf, run_underlying hue, hgv, Instr.sureAddr, hn', run_sizeOf gd hte, Addr.add_spot, Ty.size]
      · cases he
    · cases he
  simp only [Option.bind_eq_some_iff] at he
  obtain ⟨⟨ps, r⟩, hr, ⟨qs, j⟩, hj, he⟩ := he
  dsimp only at he
  split at he
  · rename_i b t w1 o n
    split at he
    · rename_i u nn u' hsl hsub
      split at he
      · rename_i hu
        cases he
        simp only [decide_eq_true_eq] at hu
        subst hu
        simp only [Option.bind_eq_some_iff] at hsl
        obtain ⟨el, hse, hte⟩ := hsl
        obtain ⟨ie, hue, _, _⟩ := gd.slice hse
        simp only [allP_append, allP] at hp
        obtain ⟨hv, _⟩ := svR_ok hr hp.1.1 (hρ x)
        obtain ⟨k, hi, _⟩ := svI_ok hj hp.1.2 (hρ i)
        obtain ⟨h0, hn⟩ := hp.2
        simp only [VR] at hv
        rcases hv with ⟨_, hn0, _⟩ | ⟨hst, cap, a, hv, hcap, _, ha⟩
        · subst hn0; exact absurd hn (by simp; omega)
        · have ha : a = (E b).base + offp (w1 ++ [o]) (.arr 0 t) := by
            rcases ha with h | h
            · subst h; exfalso; omega
            · exact h.1
          refine OpOk.same H (v := .pointer (some ⟨(E b).blk, (E b).base + offp (w1 ++ [o + j.toNat]) (.arr 0 t), none⟩)) ?_ (AR.mkRef (VR.mkPtr hst) rfl) rfl
          have hn' : 0 ≤ j ∧ j < (n : Int) := ⟨h0, hn⟩
          have hoff : a + j.toNat * u'.size = (E b).base + offp (w1 ++ [o + j.toNat]) (.arr 0 t) := by
            rw [ha, offp_snoc _ _ _ _ _ hsub, offp_snoc _ _ _ _ _ hsub, Nat.add_mul]; omega
          simp [execOp, Instr.indexAt, hi, asIntOf, run_underlying hue, hv, hn', run_sizeOf gd hte, Addr.add_spot, hoff]
      · cases he
    · cases he
  · rename_i b t jj w1
    split at he
    · rename_i nn u nn' u' hT hsub
      split at he
      · rename_i hu
        cases he
        simp only [decide_eq_true_eq] at hu
        obtain ⟨rfl, rfl⟩ := hu
        obtain ⟨el, hue, hte⟩ := arr_at gd hT
        simp only [allP_append, allP] at hp
        obtain ⟨hv, _⟩ := svR_ok hr hp.1.1 (hρ x)
        obtain ⟨k, hi, _⟩ := svI_ok hj hp.1.2 (hρ i)
        have hn' := hp.2
        simp only [VR] at hv
        obtain ⟨hst, hv⟩ := hv
        refine OpOk.same H (v := .pointer (some ⟨(E b).blk, (E b).base + offp (jj :: w1 ++ [j.toNat]) (.arr 0 t), none⟩)) ?_ (AR.mkRef (VR.mkPtr hst) rfl) rfl
        have hoff : (E b).base + offp (jj :: w1) (.arr 0 t) + j.toNat * u'.size = (E b).base + offp (jj :: w1 ++ [j.toNat]) (.arr 0 t) := by
          have : subt (jj :: w1) (.arr 0 t) = some (.arr nn' u') := by simpa [subt] using hsub
          rw [offp_snoc _ _ _ _ _ this]; omega
        have ht1 : ¬ (0 ≤ j ∧ j < (nn' : Int)) → False := fun h => h hn'
        simp [execOp, Instr.indexAt, hi, asIntOf, run_underlying hue, hv, Instr.sureAddr, hn', run_sizeOf gd hte, Addr.add_spot]
        simpa using hoff
      · cases he
    · cases he
  · cases he

include gd H hρ in
theorem index_ok (T : TypeId) (x i : Operand) (he : opE D ρ L m (.index T x i) = some e) (hp : allP e.pre) : OpOk P ρc ⟨dst, .index T x i, ty, pos, after, gu⟩ m E L w e := by
  simp only [opE, Option.bind_eq_some_iff] at he
  obtain ⟨⟨ps, a⟩, ha, ⟨qs, j⟩, hj, he⟩ := he
  dsimp only at he
  split at he
  · rename_i n t l
    split at he
    · rename_i hT
      cases he
      simp only [decide_eq_true_eq] at hT
      simp only [Eff.pure, allP_append, allP] at hp
      have hv := SV.val_ok ha hp.1.1 (hρ x)
      obtain ⟨k, hi, _⟩ := svI_ok hj hp.1.2 (hρ i)
      have hn' := hp.2
      obtain ⟨el, hue, hte⟩ := arr_at gd hT
      simp only [AR, Ty.agg] at hv
      obtain ⟨cs, hc, hcr⟩ := hv
      obtain ⟨c1, c2, c3, e1, l1, r1, _⟩ := LR.at (fun x c hx => CR.len t x c hx) t.dflt l cs.toList j.toNat hcr.2 (by rw [hcr.1]; omega)
      obtain ⟨v, hpv, hav⟩ := part_ok (P := P) (w := w) gd hte (cs := cs) (A := c1) (B := c2) (C := c3) e1 r1
      rw [l1] at hpv
      refine OpOk.same H (v := v) ?_ hav rfl
      simp [execOp, Instr.index, hi, asIntOf, run_underlying hue, hc, hn', run_sizeOf gd hte, hpv]
    · cases he
  · rename_i s
    split at he
    · rename_i hT
      cases he
      simp only [Eff.pure, allP_append, allP] at hp
      obtain ⟨hv, _⟩ := AR.str (SV.val_ok ha hp.1.1 (hρ x))
      obtain ⟨k, hi, _⟩ := svI_ok hj hp.1.2 (hρ i)
      have hn' := hp.2
      obtain ⟨_, d, _, _, hd, _, _, _, hx⟩ := gd.info hT
      cases d <;> simp only [descOk, Bool.false_eq_true] at hx
      have hlt : j.toNat < ByteArray.size s := by omega
      have hb : (s[j.toNat]? : Option UInt8) = some (s.data.toList.getD j.toNat 0) := by
        have : j.toNat < s.data.toList.length := by simpa using hlt
        rw [List.getD_eq_getElem?_getD, List.getElem?_eq_getElem this]
        simp only [getElem?_def]
        rw [dif_pos hlt]
        rfl
      refine OpOk.same H (v := .int .u8 (byteAt s j.toNat)) ?_ (AR.mkInt (E := E) ?_ ?_) rfl
      · simp [execOp, Instr.index, hi, asIntOf, run_underlying hd, hv, hn'.1, hb, byteAt]
      · simp only [byteAt]
        have : IntKind.u8.min = 0 := rfl
        rw [this]; exact Int.natCast_nonneg _
      · simp only [byteAt]
        have : IntKind.u8.max = 255 := rfl
        rw [this]
        have := UInt8.toNat_lt (s.data.toList.getD j.toNat 0)
        omega
    · cases he
  · cases he

end
end Go.SL

/- S-logic, part 12: making, appending. -/
namespace Go.SL
open Go
variable [GTab]

omit [GTab] in
theorem foldl_set (vs : List Value) : ∀ (k off : Nat) (cells : Array Value) (A B C : List Value), cells.toList = A ++ B ++ C → A.length = off + k → B.length = vs.length →
    ((vs.zipIdx k).foldl (fun cs (c, j) => cs.setIfInBounds (off + j) c) cells).toList = A ++ vs ++ C := by
  induction vs with
  | nil =>
    intro k off cells A B C e ha hb
    have : B = [] := List.length_eq_zero_iff.1 hb
    simp [e, this]
  | cons v vs ih =>
    intro k off cells A B C e ha hb
    match B, hb with
    | b :: B, hb =>
      simp only [List.zipIdx_cons, List.foldl_cons]
      have := ih (k + 1) off (cells.setIfInBounds (off + k) v) (A ++ [v]) B C (by rw [Array.toList_setIfInBounds, e, ← ha]; simp) (by simp [ha]; omega) (by simpa using hb)
      rw [this]; simp

omit [GTab] in
/-- Filling in parts. -/
theorem fill_ok {E : Env} {t : Ty} {place : Nat → Option (Nat × Nat)} (hpl : ∀ i u, okB t i = true → subt [i] t = some u → place i = some (offp [i] t, u.size)) :
    ∀ (ps : List (Nat × AV)) (vs : List Value) (x z : t.I) (cells : Array Value), buildGo t ps x = some z → ARs E (ps.map (·.2)) vs → CR E t x cells.toList →
      ∃ cells', Instr.fill place cells ((ps.map (·.1)).zip vs) = some cells' ∧ CR E t z cells'.toList
  | [], vs, x, z, cells, h, hv, hx => by
    simp only [buildGo, Option.some.injEq] at h; subst h
    exact ⟨cells, by simp [Instr.fill], hx⟩
  | (i, y) :: ps, vs, x, z, cells, h, hv, hx => by
    simp only [buildGo] at h
    split at h
    · rename_i hok
      simp only [Option.bind_eq_some_iff] at h
      obtain ⟨x', h1, h2⟩ := h
      obtain ⟨v, vs', rfl, hv1, hv2⟩ := hv
      have hokp : allP (okp [i] t) := by
        by_cases ha : t.isArr = true
        · cases t <;> simp only [Ty.isArr, Bool.false_eq_true] at ha
          simp only [okB, decide_eq_true_eq] at hok
          simpa [okp, allP] using hok
        · have ha : t.isArr = false := by simpa using ha
          rw [okp_other ha]
          rw [wrp_other ha] at h1
          simp only [Option.bind_eq_some_iff] at h1
          obtain ⟨b, hb, _⟩ := h1
          obtain ⟨_, _, _, _, _, _, ht⟩ := CR.fld t x i b _ hb hx
          rw [ht]; simp [okp, allP]
      obtain ⟨c1, c2, c3, e1, l1, l2, hs, hr⟩ := wrp_ok [i] ⟨t, x⟩ y x' _ h1 hokp hx
      have hcl := hv1.cells
      have hlen := CR.len _ _ _ hcl
      have hsz : v.cells.size = y.t.size := by rw [← Array.length_toList]; exact hlen
      have hcs : cells.size = (c1 ++ c2 ++ c3).length := by rw [← e1]; simp
      let cells1 := v.cells.zipIdx.foldl (fun cs (c, j) => cs.setIfInBounds (offp [i] t + j) c) cells
      have hc1 : cells1.toList = c1 ++ v.cells.toList ++ c3 := by
        have := foldl_set v.cells.toList 0 (offp [i] t) cells c1 c2 c3 e1 (by simpa using l1) (by rw [l2, hlen])
        rw [← this]
        simp only [cells1]
        rw [← Array.foldl_toList, Array.toList_zipIdx]
      obtain ⟨cells', h3, h4⟩ := fill_ok hpl ps vs' x' z cells1 h2 hv2 (by rw [hc1]; exact hr _ hcl)
      refine ⟨cells', ?_, h4⟩
      simp only [List.map_cons, List.zip_cons_cons, Instr.fill, hpl i y.t hok hs]
      have l1' : c1.length = offp [i] t := l1
      simp only [List.length_append, l1', l2] at hcs
      have hc : (decide (v.cells.size ≠ y.t.size) || decide (offp [i] t + v.cells.size > cells.size)) = false := by simp [hsz, hcs]
      rw [if_neg (by rw [hc]; simp)]
      exact h3
    · cases h

omit [GTab] in
theorem rowGo_build {t : Ty} {n : Nat} : ∀ (ps : List (Nat × AV)) (x z : List t.I), x.length = n → rowGo t ps x = some z → buildGo (.arr n t) ps x = some z ∧ z.length = n
  | [], x, z, hl, h => by
    simp only [rowGo, Option.some.injEq] at h; subst h
    exact ⟨rfl, hl⟩
  | (i, y) :: ps, x, z, hl, h => by
    simp only [rowGo, Option.bind_eq_some_iff] at h
    obtain ⟨y', hy, h⟩ := h
    split at h
    · rename_i hi
      simp only [decide_eq_true_eq] at hi
      obtain ⟨h1, h2⟩ := rowGo_build ps (x.set i y') z (by simpa using hl) h
      refine ⟨?_, h2⟩
      have : okB (.arr n t) i = true := by simp only [okB, decide_eq_true_eq]; omega
      simp only [buildGo, this]
      have : wrp [i] ⟨.arr n t, x⟩ y = some (x.set i y') := by simp [wrp, hy]
      rw [this]; exact h1
    · cases h

omit [GTab] in
theorem madeCells_rep (z : Array Value) (hz : 0 < z.size) : ∀ k, (madeCells z (k * z.size)).toList = (List.replicate k z.toList).flatten
  | 0 => by simp [madeCells]
  | k + 1 => by
    have ih := madeCells_rep z hz k
    simp only [madeCells, Array.toList_map, Array.toList_range] at ih ⊢
    rw [Nat.succ_mul, List.range_add, List.map_append, ih, List.replicate_succ', List.flatten_append]
    congr 1
    simp only [List.map_map, List.flatten_cons, List.flatten_nil, List.append_nil]
    apply List.ext_getElem
    · simp
    · intro i h1 h2
      simp at h1
      simp only [List.getElem_map, List.getElem_range, Function.comp]
      have : (k * z.size + i) % z.size = i := by rw [Nat.mul_comm, Nat.mul_add_mod, Nat.mod_eq_of_lt h1]
      rw [this]
      simp [h1]

omit [GTab] in
theorem made_ok {E : Env} {t : Ty} {z : Array Value} (h : CR E t t.dflt z.toList) (k : Nat) : LR (CR E t) (List.replicate k t.dflt) (madeCells z (k * t.size)).toList := by
  have hl : z.size = t.size := by rw [← Array.length_toList]; exact CR.len _ _ _ h
  by_cases hz : z.size = 0
  · have : z.toList = [] := List.length_eq_zero_iff.1 (by simpa using hz)
    have hr := LR.replicate h k
    rw [this] at hr
    rw [← hl, hz]
    simpa [madeCells] using hr
  · rw [← hl, madeCells_rep z (by omega)]
    exact LR.replicate h k

section
variable {P : Program} {D : TI} (gd : Good P D) {ρ : Operand → SV} {ρc : Operand → Value} {m : Nat} {E : Env} (hρ : ∀ x, SR E (ρ x) (ρc x)) {L : Nat → Option Blk} {w : World} (H : HR E L w) (hm : (E m).st = .dead)
  (ty : TypeId) (pos : String) (after : Array Edge) (gu : Option (Nat × Bool)) (dst : Option Tmp) {e : Eff}

omit [GTab] in
theorem run_fieldSizes {fs : List Field} {off : Nat} {t : Ty} (h : fieldsOk D fs off t = true) : ∀ f ∈ fs, ∃ a, D.ty f.type = some a := by
  intro f hf
  induction fs generalizing off t with
  | nil => cases hf
  | cons g fs ih =>
    cases t <;> (try (cases fs <;> simp [fieldsOk] at h; done))
    · cases fs with
      | nil =>
        simp only [fieldsOk, Bool.and_eq_true, decide_eq_true_eq] at h
        cases List.mem_singleton.1 hf
        exact ⟨_, h.1⟩
      | cons g' fs => simp [fieldsOk] at h
    · cases fs with
      | nil => simp [fieldsOk] at h
      | cons g' fs =>
        simp only [fieldsOk, Bool.and_eq_true, decide_eq_true_eq] at h
        rcases List.mem_cons.1 hf with e | e
        · subst e; exact ⟨_, h.1.1⟩
        · exact ih h.2 e

include gd in
omit [GTab] in
theorem run_places {fs : Array Field} (h : ∀ f ∈ fs.toList, ∃ a, D.ty f.type = some a) :
    (fs.mapM fun f => (do pure (f.offset, ← sizeOf f.type) : Sem (Nat × Nat))).run P w = .ok (fs.map fun f => (f.offset, P.cellsOf f.type)) w := by
  have aux : ∀ l : List Field, (∀ f ∈ l, ∃ a, D.ty f.type = some a) → (l.mapM fun f => (do pure (f.offset, ← sizeOf f.type) : Sem (Nat × Nat))).run P w = .ok (l.map fun f => (f.offset, P.cellsOf f.type)) w := by
    intro l
    induction l with
    | nil => intro _; simp
    | cons f l ih =>
      intro hl
      obtain ⟨a, ha⟩ := hl f (by simp)
      obtain ⟨i, _, _, hi, _, hs, _⟩ := gd.info ha
      have hc : P.cellsOf f.type = a.size := by simp [Program.cellsOf, hi, hs]
      simp only [List.mapM_cons, Sem.run_bind, run_sizeOf gd ha, Result.andThen_ok, Sem.run_pure, ih fun g hg => hl g (List.mem_cons_of_mem _ hg), List.map_cons, hc]
  rw [Array.mapM_eq_mapM_toList]
  simp only [Sem.run_map, aux fs.toList h, Result.andThen_ok]
  congr 1
  apply Array.toList_inj.1
  simp

omit [GTab] in
theorem zip_vals {α : Type} (ps : List (Nat × α)) (f : α → Value) : ps.map (fun q => (q.1, f q.2)) = (ps.map (·.1)).zip (ps.map fun q => f q.2) := by
  induction ps with
  | nil => rfl
  | cons p ps ih => simp [ih]

omit [GTab] in
theorem vals_len : ∀ (l : List SV) (ps : List Prop) (as : List AV), vals l = some (ps, as) → as.length = l.length
  | [], ps, as, h => by simp only [vals, Option.some.injEq, Prod.mk.injEq] at h; rw [← h.2]; rfl
  | s :: l, ps, as, h => by
    simp only [vals, Option.bind_eq_some_iff, Option.map_eq_some_iff] at h
    obtain ⟨⟨p, a⟩, h1, ⟨q, bs⟩, h2, h3⟩ := h
    simp only [Prod.mk.injEq] at h3
    obtain ⟨rfl, rfl⟩ := h3
    simp [vals_len l q bs h2]

include gd H hρ in
theorem build_ok (T : TypeId) (ps : Array (Nat × Operand)) (he : opE D ρ L m (.build T ps) = some e) (hp : allP e.pre) : OpOk P ρc ⟨dst, .build T ps, ty, pos, after, gu⟩ m E L w e := by
  simp only [opE, Option.bind_eq_some_iff] at he
  obtain ⟨t, hT, ⟨qs, as⟩, hvs, he⟩ := he
  dsimp only at he
  split at he
  · rename_i hag
    simp only [Option.map_eq_some_iff] at he
    obtain ⟨y, hy, rfl⟩ := he
    have hvs' : vals ((ps.toList.map (·.2)).map ρ) = some (qs, as) := by rw [List.map_map]; exact hvs
    have hv := vals_ok ρ ρc hρ (ps.toList.map (·.2)) qs as hvs' hp
    have hlen : as.length = ps.toList.length := by have := vals_len _ _ _ hvs; simpa using this
    obtain ⟨_, d, z, _, hd, _, hz0, hz, hx⟩ := gd.info hT
    obtain ⟨z', hzr, hza⟩ := run_zero gd hT w
    have e1 : ((ps.toList.map (·.1)).zip as).map (·.2) = as := by
      rw [List.map_snd_zip]; simp [hlen]
    have e2 : ((ps.toList.map (·.1)).zip as).map (·.1) = ps.toList.map (·.1) := by
      rw [List.map_fst_zip]; simp [hlen]
    have hcomp : (ps.map fun q => (q.1, ρc q.2)).toList = (ps.toList.map (·.1)).zip ((ps.toList.map (·.2)).map ρc) := by
      rw [Array.toList_map, zip_vals, List.map_map]; rfl
    have fin : ∀ (place : Nat → Option (Nat × Nat)), (∀ i u, okB t i = true → subt [i] t = some u → place i = some (offp [i] t, u.size)) →
        ∃ cells', Instr.fill place z'.cells (ps.map fun q => (q.1, ρc q.2)).toList = some cells' ∧ AR E ⟨t, y⟩ (.agg cells') := by
      intro place hpl
      obtain ⟨cells', f1, f2⟩ := fill_ok (E := E) hpl _ _ _ _ z'.cells hy (by rw [e1]; exact hv) (hza E).cells
      rw [e2, ← hcomp] at f1
      refine ⟨cells', f1, ?_⟩
      simp only [AR, hag]
      exact ⟨_, rfl, f2⟩
    by_cases harr : t.isArr = true
    · obtain ⟨n, u, rfl⟩ : ∃ n u, t = .arr n u := by
        cases t <;> simp [Ty.isArr] at harr
        exact ⟨_, _, rfl⟩
      obtain ⟨el, hue, hte⟩ := arr_at gd hT
      obtain ⟨cells', f1, f2⟩ := fin (fun i => some (i * u.size, u.size)) (fun i v hok hs => by simp only [subt, Option.some.injEq] at hs; subst hs; simp [offp])
      refine OpOk.same H (v := .agg cells') ?_ f2 rfl
      simp only [execOp, Instr.build, Sem.run_bind, hzr, Result.andThen_ok, run_underlying hue, run_sizeOf gd hte]
      rw [f1]; simp
    · have harr : t.isArr = false := by simpa using harr
      have hstr : ∃ fs, P.underlying T = some (.struct fs) ∧ (∀ f ∈ fs.toList, ∃ a, D.ty f.type = some a) ∧
          ∀ i u, okB t i = true → subt [i] t = some u → (fs.map fun f => (f.offset, P.cellsOf f.type))[i]? = some (offp [i] t, u.size) := by
        have main : ∀ fs, P.underlying T = some (.struct fs) → ∀ i u, okB t i = true → subt [i] t = some u → (fs.map fun f => (f.offset, P.cellsOf f.type))[i]? = some (offp [i] t, u.size) := by
          intro fs hfs i u _ hs
          rw [subt_other harr] at hs
          simp only [Option.bind_eq_some_iff, subt, Option.some.injEq] at hs
          obtain ⟨b, hb, rfl⟩ := hs
          obtain ⟨fs', f, h1, h2, h3, h4⟩ := struct_at gd hT hb
          rw [hfs] at h1; cases h1
          obtain ⟨i', _, _, hi, _, hsz, _⟩ := gd.info h3
          have hc : P.cellsOf f.type = b.size := by simp [Program.cellsOf, hi, hsz]
          rw [offp_other harr, hb]
          simp [h2, h4, hc, offp]
        cases t <;> simp only [Ty.agg, Bool.false_eq_true] at hag <;> cases d <;> (first | (exfalso; revert hx; simp [descOk]; done) | skip)
        · rename_i fs
          have hnil : fs.toList = [] := by simpa [descOk] using hx
          exact ⟨fs, hd, (fun f hf => by rw [hnil] at hf; cases hf), main fs hd⟩
        · simp [Ty.isArr] at harr
        · rename_i fs
          exact ⟨fs, hd, run_fieldSizes hx, main fs hd⟩
        · rename_i fs
          exact ⟨fs, hd, run_fieldSizes hx, main fs hd⟩
      obtain ⟨fs, hfs, hall, hpl⟩ := hstr
      obtain ⟨cells', f1, f2⟩ := fin _ hpl
      refine OpOk.same H (v := .agg cells') ?_ f2 rfl
      have hpr := run_places (w := w) gd hall
      simp only [execOp, Instr.build, Sem.run_bind, hzr, Result.andThen_ok, run_underlying hfs, hpr]
      rw [f1]; simp
  · cases he

include gd H hm hρ in
theorem buildSlice_ok (T : TypeId) (n : Nat) (ps : Array (Nat × Operand)) (he : opE D ρ L m (.buildSlice T n ps) = some e) (hp : allP e.pre) : OpOk P ρc ⟨dst, .buildSlice T n ps, ty, pos, after, gu⟩ m E L w e := by
  simp only [opE, Option.bind_eq_some_iff] at he
  obtain ⟨el, hsl, t, hT, ⟨qs, as⟩, hvs, he⟩ := he
  dsimp only at he
  split at he
  · rename_i hlim
    simp only [Option.map_eq_some_iff] at he
    obtain ⟨y, hy, rfl⟩ := he
    simp only [decide_eq_true_eq] at hlim
    obtain ⟨hlim, hnb⟩ := hlim
    have hvs' : vals ((ps.toList.map (·.2)).map ρ) = some (qs, as) := by rw [List.map_map]; exact hvs
    have hv := vals_ok ρ ρc hρ (ps.toList.map (·.2)) qs as hvs' hp
    have hlen : as.length = ps.toList.length := by have := vals_len _ _ _ hvs; simpa using this
    obtain ⟨ie, hue, hie, _⟩ := gd.slice hsl
    obtain ⟨z', hzr, hza⟩ := run_zero gd hT w
    have e1 : ((ps.toList.map (·.1)).zip as).map (·.2) = as := by
      rw [List.map_snd_zip]; simp [hlen]
    have e2 : ((ps.toList.map (·.1)).zip as).map (·.1) = ps.toList.map (·.1) := by
      rw [List.map_fst_zip]; simp [hlen]
    have hcomp : (ps.map fun q => (q.1, ρc q.2)).toList = (ps.toList.map (·.1)).zip ((ps.toList.map (·.2)).map ρc) := by
      rw [Array.toList_map, zip_vals, List.map_map]; rfl
    obtain ⟨hb, hyl⟩ := rowGo_build (n := n) _ _ _ (by simp) hy
    have hc0 : CR E (.arr n t) (List.replicate n t.dflt) (madeCells z'.cells (n * t.size)).toList := ⟨by simp, made_ok (hza E).cells n⟩
    obtain ⟨cells', f1, f2⟩ := fill_ok (E := E) (t := .arr n t) (place := fun i => some (i * t.size, t.size)) (fun i v hok hs => by simp only [subt, Option.some.injEq] at hs; subst hs; simp [offp]) _ _ _ _ _ hb (by rw [e1]; exact hv) hc0
    rw [e2, ← hcomp] at f1
    have hrun : (Instr.buildSlice T n (ps.map fun q => (q.1, ρc q.2))).run P w = .ok (.slice (some ⟨w.heap.size, 0, none⟩) n n) (pushW w cells' el) := by
      have hlim' : ¬ (n * t.size > 2 ^ 24) := by omega
      simp only [Instr.buildSlice, Sem.run_bind, run_underlying hue, Result.andThen_ok, run_sizeOf gd hT, if_neg hlim', Sem.run_ite]
      by_cases h0 : n * t.size = 0
      · rw [if_pos h0]
        simp only [Sem.run_pure, Result.andThen_ok]
        have : Array.map (fun x => (#[] : Array Value)[x % (#[] : Array Value).size]!) (Array.range (n * t.size)) = madeCells z'.cells (n * t.size) := by simp [madeCells, h0]
        rw [this, f1]
        simp [run_newRow]
      · rw [if_neg h0]
        simp only [Sem.run_pure, Result.andThen_ok, hzr]
        have : Array.map (fun x => z'.cells[x % z'.cells.size]!) (Array.range (n * t.size)) = madeCells z'.cells (n * t.size) := rfl
        rw [this, f1]
        simp [run_newRow]
    have hcs : cells'.size = n * t.size := by
      have := CR.len _ _ _ f2
      rw [← Array.length_toList, this]; rfl
    refine OpOk.push (cs := cells') (T := el) H hm f2.2 (v := .slice (some ⟨w.heap.size, 0, none⟩) n n) ?_ rfl (AR.mkRef ?_ rfl)
    · simp only [execOp, Sem.run_bind]
      have hm' : (ps.map fun x => (x.fst, ρc x.snd)) = ps.map fun q => (q.1, ρc q.2) := rfl
      rw [hrun]; rfl
    · simp only [VR]
      refine .inr ⟨by simp [updE], n, 0, by simp [updE], Nat.le_refl _, ?_, .inr ⟨by simp [updE, offp], by simp [updE, hcs, offp, esz, subt]⟩⟩
      simp only [big]; omega
  · cases he

end
end Go.SL

/- S-logic, part 13: slices, strings, closures, interfaces. -/
namespace Go.SL
open Go
variable [GTab]

section
variable {P : Program} {D : TI} (gd : Good P D) {ρ : Operand → SV} {ρc : Operand → Value} {m : Nat} {E : Env} (hρ : ∀ x, SR E (ρ x) (ρc x)) {L : Nat → Option Blk} {w : World} (H : HR E L w) (hm : (E m).st = .dead)
  (ty : TypeId) (pos : String) (after : Array Edge) (gu : Option (Nat × Bool)) (dst : Option Tmp) {e : Eff}

include gd H hm hρ in
theorem makeSlice_ok (T : TypeId) (x y : Operand) (he : opE D ρ L m (.makeSlice T x y) = some e) (hp : allP e.pre) : OpOk P ρc ⟨dst, .makeSlice T x y, ty, pos, after, gu⟩ m E L w e := by
  simp only [opE, Option.bind_eq_some_iff, Option.map_eq_some_iff] at he
  obtain ⟨⟨ps, a⟩, ha, ⟨qs, b⟩, hb, el, hsl, t, hT, rfl⟩ := he
  simp only [allP_append, allP] at hp
  obtain ⟨⟨hp1, hp2⟩, h0, hab, hlim, hl2⟩ := hp
  obtain ⟨k, hx, hxr⟩ := svI_ok ha hp1 (hρ x)
  obtain ⟨k', hy, hyr⟩ := svI_ok hb hp2 (hρ y)
  rw [hab] at hy
  obtain ⟨ie, hue, hie, hby⟩ := gd.slice hsl
  obtain ⟨ie', _, z, hie', _, hsz, hz0, hza, _⟩ := gd.info hT
  rw [hie] at hie'; cases hie'
  have h63 : a ≤ 9223372036854775807 := by simp only [lim] at hl2; omega
  have hrun := run_make (P := P) w T el ie z hue hie hz0 k k' a a h0 (Int.le_refl _) (by rw [hby]; simp only [lim] at hlim; rw [Int.mul_comm]; omega) h63
  rw [hsz] at hrun
  have hw : w.alloc (.cells (madeCells z.cells (a.toNat * t.size)) el) = pushW w (madeCells z.cells (a.toNat * t.size)) el := rfl
  rw [hw] at hrun
  refine OpOk.push (cs := madeCells z.cells (a.toNat * t.size)) (T := el) H hm (made_ok (hza E).cells a.toNat) (v := .slice (some ⟨w.heap.size, 0, none⟩) a.toNat a.toNat) ?_ rfl (AR.mkRef ?_ rfl)
  · simp only [execOp, hx, hy, Sem.run_bind]
    rw [hrun]; rfl
  · simp only [VR]
    refine .inr ⟨by simp [updE], a.toNat, 0, by simp [updE], Nat.le_refl _, by simp only [big]; omega, .inr ⟨by simp [updE, offp], by simp [updE, madeCells, offp, esz, subt]⟩⟩


include gd H hρ in
theorem s2ap_ok (T : TypeId) (x : Operand) (he : opE D ρ L m (.sliceToArrayPointer T x) = some e) (hp : allP e.pre) : OpOk P ρc ⟨dst, .sliceToArrayPointer T x, ty, pos, after, gu⟩ m E L w e := by
  simp only [opE, Option.bind_eq_some_iff] at he
  obtain ⟨⟨ps, r⟩, hr, he⟩ := he
  dsimp only at he
  split at he
  · rename_i b t q o n k u hT
    match k, hT, he with
    | 0, hT, he => cases he
    | k + 1, hT, he =>
      cases he
      simp only [allP_append, allP] at hp
      obtain ⟨hv, _⟩ := svR_ok hr hp.1 (hρ x)
      obtain ⟨el, hue, _⟩ := arr_at gd hT
      simp only [VR] at hv
      have hkn : k + 1 ≤ n := hp.2
      rcases hv with ⟨_, hn0, _⟩ | ⟨hst, cap, a, hv, hcap, _, ha⟩
      · omega
      · have ha : a = (E b).base + offp (q ++ [o]) (.arr 0 t) := by
          rcases ha with h | h
          · omega
          · exact h.1
        refine OpOk.same H (v := .pointer (some ⟨(E b).blk, a, none⟩)) ?_ (AR.mkRef ?_ rfl) rfl
        · have : ¬ n < k + 1 := by omega
          simp [execOp, Instr.arrayAt, run_underlying hue, hv, this]
        · unfold VR; exact ⟨hst, by rw [ha]⟩
  · cases he

omit [GTab] in
theorem VRs_append {E : Env} : ∀ (l1 l2 : List Ref) (c1 c2 : List Value), VRs E l1 c1 → VRs E l2 c2 → VRs E (l1 ++ l2) (c1 ++ c2)
  | [], l2, c1, c2, h, k => by simp only [VRs] at h; subst h; simpa using k
  | r :: l1, l2, c1, c2, h, k => by
    simp only [VRs] at h
    obtain ⟨v, vs', rfl, h1, h2⟩ := h
    exact ⟨v, vs' ++ c2, by simp, h1, VRs_append l1 l2 vs' c2 h2 k⟩

omit [GTab] in
theorem toRef_ok {E : Env} : ∀ (t : Ty) (x : t.I) (l : List Ref) (vs : List Value), t.toRef x = some l → CR E t x vs → VRs E l vs
  | .int k, x, l, vs, h, h' => by simp only [Ty.toRef, Option.some.injEq] at h; subst h; obtain ⟨rfl, h2⟩ := h'; exact ⟨_, _, rfl, by unfold VR; exact ⟨rfl, h2⟩, by simp [VRs]⟩
  | .bool, x, l, vs, h, h' => by simp only [Ty.toRef, Option.some.injEq] at h; subst h; simp only [CR] at h'; subst h'; exact ⟨_, _, rfl, by simp only [VR], by simp [VRs]⟩
  | .str, x, l, vs, h, h' => by simp only [Ty.toRef, Option.some.injEq] at h; subst h; obtain ⟨rfl, h2⟩ := h'; exact ⟨_, _, rfl, by unfold VR; exact ⟨rfl, h2⟩, by simp [VRs]⟩
  | .ref k, x, l, vs, h, h' => by simp only [Ty.toRef, Option.some.injEq] at h; subst h; obtain ⟨v, rfl, h2, _⟩ := h'; exact ⟨_, _, rfl, h2, by simp [VRs]⟩
  | .unit, x, l, vs, h, h' => by simp only [Ty.toRef, Option.some.injEq] at h; subst h; simp only [CR] at h'; subst h'; simp [VRs]
  | .arr n t, x, l, vs, h, _ => by simp [Ty.toRef] at h
  | .last a, x, l, vs, h, h' => toRef_ok a x l vs h h'
  | .cons a r, x, l, vs, h, h' => by
    simp only [Ty.toRef, Option.bind_eq_some_iff, Option.map_eq_some_iff] at h
    obtain ⟨l1, e1, l2, e2, rfl⟩ := h
    obtain ⟨c1, c2, rfl, r1, r2⟩ := h'
    exact VRs_append _ _ _ _ (toRef_ok a x.1 l1 c1 e1 r1) (toRef_ok r x.2 l2 c2 e2 r2)

omit [GTab] in
theorem toR_ok {E : Env} {a : AV} {r : Ref} {v : Value} (h : a.toR = some r) (hv : AR E a v) : VR E r v := by
  unfold AV.toR at h
  simp only [Option.bind_eq_some_iff] at h
  obtain ⟨l, hl, h⟩ := h
  split at h
  · rename_i hag
    cases h
    simp only [AR, hag] at hv
    obtain ⟨cs, rfl, hc⟩ := hv
    simp only [VR]
    exact ⟨cs, rfl, toRef_ok _ _ _ _ hl hc⟩
  · rename_i hag
    cases h
    simp only [AR, hag] at hv
    have := toRef_ok _ _ _ _ hl hv
    simp only [VRs] at this
    obtain ⟨u, us, e, h1, _⟩ := this
    cases e; exact h1
  · cases h

omit [GTab] in
theorem toRs_ok {E : Env} : ∀ (as : List AV) (rs : List Ref) (vs : List Value), as.mapM AV.toR = some rs → ARs E as vs → VRs E rs vs
  | [], rs, vs, h, hv => by
    simp at h; subst h; simp only [ARs] at hv; subst hv; simp [VRs]
  | a :: as, rs, vs, h, hv => by
    rw [List.mapM_cons] at h
    simp only [bind, Option.bind_eq_some_iff, pure, Option.some.injEq] at h
    obtain ⟨r, h1, rs', h2, rfl⟩ := h
    obtain ⟨v, vs', rfl, k1, k2⟩ := hv
    exact ⟨v, vs', rfl, toR_ok h1 k1, toRs_ok as rs' vs' h2 k2⟩

include H hρ in
theorem makeFunc_ok (f : Fn) (a c : Array Operand) (he : opE D ρ L m (.makeFunc f a c) = some e) (hp : allP e.pre) : OpOk P ρc ⟨dst, .makeFunc f a c, ty, pos, after, gu⟩ m E L w e := by
  simp only [opE, Option.bind_eq_some_iff, Option.map_eq_some_iff] at he
  obtain ⟨⟨ps, as⟩, ha, ⟨qs, cs⟩, hc, a', ha', c', hc', rfl⟩ := he
  simp only [allP_append] at hp
  have h1 := vals_ok ρ ρc hρ a.toList ps as ha hp.1
  have h2 := vals_ok ρ ρc hρ c.toList qs cs hc hp.2
  refine OpOk.same H (v := .func f (a.map ρc) (c.map ρc)) (by simp [execOp, Instr.makeFunc]) (AR.mkRef ?_ rfl) rfl
  simp only [VR]
  exact ⟨_, _, rfl, by rw [Array.toList_map]; exact toRs_ok _ _ _ ha' h1, by rw [Array.toList_map]; exact toRs_ok _ _ _ hc' h2⟩

omit [GTab] in
theorem descOk_iface {t : Ty} {ms : Array (String × TypeId)} (hx : descOk D t (.interface ms) = true) : t = .ref .iface := by
  cases t
  case ref kk => cases kk <;> first | rfl | (simp [descOk] at hx; done)
  all_goals (simp [descOk] at hx; done)

include gd H hρ in
theorem makeInterface_ok (T : TypeId) (x : Operand) (he : opE D ρ L m (.makeInterface T x) = some e) (hp : allP e.pre) : OpOk P ρc ⟨dst, .makeInterface T x, ty, pos, after, gu⟩ m E L w e := by
  simp only [opE, Option.bind_eq_some_iff] at he
  obtain ⟨⟨ps, a⟩, ha, he⟩ := he
  dsimp only at he
  split at he
  · cases he
  · rename_i t hd hT hni
    simp only [Option.map_eq_some_iff] at he
    obtain ⟨r, hr, rfl⟩ := he
    have hv := SV.val_ok ha hp (hρ x)
    refine OpOk.same H (v := .iface T (ρc x)) ?_ (AR.mkRef (by simp only [VR]; exact ⟨_, rfl, toR_ok hr hv⟩) rfl) rfl
    obtain ⟨_, d, _, _, hd', -, -, -, hx⟩ := gd.info hni
    have : ∀ ms, d ≠ .interface ms := by
      rintro ms rfl
      cases t
      case ref kk => cases kk <;> first | (simp [descOk] at hx; done) | exact hd rfl
      all_goals (simp [descOk] at hx; done)
    simp only [execOp, Instr.makeInterface, Sem.run_bind, run_underlying hd', Result.andThen_ok]
    cases d <;> first | (exact absurd rfl (this _)) | rfl
  · cases he

omit [GTab] in
theorem ofRef_ok {E : Env} : ∀ (t : Ty) (l l' : List Ref) (x : t.I) (vs : List Value), t.ofRef l = some (x, l') → (∀ r ∈ l, r.isAgg = false) → VRs E l vs → ∃ c1 c2, vs = c1 ++ c2 ∧ CR E t x c1 ∧ VRs E l' c2 ∧ ∀ r ∈ l', r.isAgg = false
  | .int k, [], l', x, vs, h, hn, hv => by simp [Ty.ofRef] at h
  | .int k, r :: l, l', x, vs, h, hn, hv => by
    simp only [VRs] at hv
    obtain ⟨v, vs', rfl, h1, h2⟩ := hv
    have ha := hn r (by simp)
    cases r <;> simp only [Ty.ofRef, reduceCtorEq] at h
    split at h
    · rename_i hk; subst hk
      cases h
      simp only [VR] at h1
      exact ⟨[v], vs', rfl, by rw [h1.1]; exact ⟨rfl, h1.2⟩, h2, fun r hr => hn r (List.mem_cons_of_mem _ hr)⟩
    · cases h
  | .bool, [], l', x, vs, h, hn, hv => by simp [Ty.ofRef] at h
  | .bool, r :: l, l', x, vs, h, hn, hv => by
    simp only [VRs] at hv
    obtain ⟨v, vs', rfl, h1, h2⟩ := hv
    have ha := hn r (by simp)
    cases r <;> simp only [Ty.ofRef, reduceCtorEq] at h
    cases h
    simp only [VR] at h1
    exact ⟨[v], vs', rfl, by rw [h1]; rfl, h2, fun r hr => hn r (List.mem_cons_of_mem _ hr)⟩
  | .str, [], l', x, vs, h, hn, hv => by simp [Ty.ofRef] at h
  | .str, r :: l, l', x, vs, h, hn, hv => by
    simp only [VRs] at hv
    obtain ⟨v, vs', rfl, h1, h2⟩ := hv
    have ha := hn r (by simp)
    cases r <;> simp only [Ty.ofRef, reduceCtorEq] at h
    cases h
    simp only [VR] at h1
    exact ⟨[v], vs', rfl, by rw [h1.1]; exact ⟨rfl, h1.2⟩, h2, fun r hr => hn r (List.mem_cons_of_mem _ hr)⟩
  | .ref k, [], l', x, vs, h, hn, hv => by simp [Ty.ofRef] at h
  | .ref k, r :: l, l', x, vs, h, hn, hv => by
    simp only [VRs] at hv
    obtain ⟨v, vs', rfl, h1, h2⟩ := hv
    have ha := hn r (by simp)
    simp only [Ty.ofRef, Option.some.injEq, Prod.mk.injEq] at h
    obtain ⟨rfl, rfl⟩ := h
    exact ⟨[v], vs', rfl, ⟨v, rfl, h1, ha⟩, h2, fun r hr => hn r (List.mem_cons_of_mem _ hr)⟩
  | .unit, l, l', x, vs, h, hn, hv => by
    simp only [Ty.ofRef, Option.some.injEq, Prod.mk.injEq] at h
    obtain ⟨_, rfl⟩ := h
    exact ⟨[], vs, rfl, rfl, hv, hn⟩
  | .arr n t, l, l', x, vs, h, hn, hv => by simp [Ty.ofRef] at h
  | .last a, l, l', x, vs, h, hn, hv => ofRef_ok a l l' x vs h hn hv
  | .cons a r, l, l', x, vs, h, hn, hv => by
    simp only [Ty.ofRef, Option.bind_eq_some_iff, Option.map_eq_some_iff] at h
    obtain ⟨⟨y, l1⟩, h1, ⟨z, l2⟩, h2, h3⟩ := h
    simp only [Prod.mk.injEq] at h3
    obtain ⟨rfl, rfl⟩ := h3
    obtain ⟨c1, c2, rfl, k1, k2, k3⟩ := ofRef_ok a l l1 y vs h1 hn hv
    obtain ⟨d1, d2, rfl, j1, j2, j3⟩ := ofRef_ok r l1 l2 z c2 h2 k3 k2
    exact ⟨c1 ++ d1, d2, by simp, ⟨c1, d1, rfl, k1, j1⟩, j2, j3⟩


omit [GTab] in
theorem flatR_ok : ∀ {l : List Ref}, flatR l = true → ∀ q ∈ l, q.isAgg = false
  | [], _, q, hq => by cases hq
  | r :: l, h, q, hq => by
    simp only [flatR, Bool.and_eq_true, Bool.not_eq_true'] at h
    rcases List.mem_cons.1 hq with e | e
    · subst e; exact h.1
    · exact flatR_ok h.2 q e

omit [GTab] in
theorem ofR_ok {E : Env} {t : Ty} {r : Ref} {x : t.I} {v : Value} (h : ofR t r = some x) (hv : VR E r v) : AR E ⟨t, x⟩ v := by
  unfold ofR at h
  split at h
  · rename_i hag _
    split at h
    · rename_i l _
      split at h
      · rename_i hf
        simp only [Option.bind_eq_some_iff] at h
        obtain ⟨⟨y, l'⟩, h1, h2⟩ := h
        dsimp only at h2
        split at h2
        · cases h2
          simp only [VR] at hv
          obtain ⟨cs, rfl, hc⟩ := hv
          obtain ⟨c1, c2, e1, k1, k2, _⟩ := ofRef_ok t l [] x cs.toList h1 (flatR_ok hf) hc
          simp only [VRs] at k2
          subst k2
          simp only [AR, hag]
          exact ⟨cs, rfl, by rw [e1]; simpa using k1⟩
        · cases h2
      · cases h
    · cases h
  · rename_i hag hr
    simp only [Option.bind_eq_some_iff] at h
    obtain ⟨⟨y, l'⟩, h1, h2⟩ := h
    dsimp only at h2
    split at h2
    · cases h2
      obtain ⟨c1, c2, e1, k1, k2, _⟩ := ofRef_ok t [r] [] x [v] h1 (by simpa using hr) ⟨v, [], rfl, hv, by simp [VRs]⟩
      simp only [VRs] at k2
      subst k2
      simp only [AR, hag]
      rw [e1]; simpa using k1
    · cases h2
  · cases h

include gd H hρ in
theorem typeAssert_ok (x : Operand) (U T : TypeId) (ok : Bool) (he : opE D ρ L m (.typeAssert x U T ok) = some e) (hp : allP e.pre) : OpOk P ρc ⟨dst, .typeAssert x U T ok, ty, pos, after, gu⟩ m E L w e := by
  simp only [opE, Option.bind_eq_some_iff] at he
  obtain ⟨⟨ps, r⟩, hr, he⟩ := he
  dsimp only at he
  split at he
  · rename_i T' r' t hT
    split at he
    · cases he
    · rename_i hTT hni
      simp only [Option.map_eq_some_iff] at he
      obtain ⟨y, hy, rfl⟩ := he
      simp only [decide_eq_true_eq] at hTT
      subst hTT
      obtain ⟨hv, _⟩ := svR_ok hr hp (hρ x)
      simp only [VR] at hv
      obtain ⟨u, hv, hu⟩ := hv
      refine OpOk.same H (v := u) ?_ (ofR_ok hy hu) rfl
      obtain ⟨_, d, _, _, hd', -, -, -, hx⟩ := gd.info hT
      have : ∀ ms, d ≠ .interface ms := fun ms e => by subst e; exact hni (descOk_iface hx)
      simp only [execOp, Instr.typeAssert, Sem.run_bind, run_underlying hd', Result.andThen_ok, hv]
      cases d <;> first | (exact absurd rfl (this _)) | simp
    · cases he
  · cases he

omit [GTab] in
theorem optI_ok {E : Env} {ρ : Operand → SV} {ρc : Operand → Value} (hρ : ∀ x, SR E (ρ x) (ρc x)) {o : Option Operand} {ps : List Prop} {r : Option Int} (h : optI (o.map ρ) = some (ps, r)) (hp : allP ps) :
    (o = none ∧ r = none) ∨ ∃ x k i, o = some x ∧ r = some i ∧ ρc x = .int k i := by
  cases o with
  | none => simp only [Option.map_none, optI, Option.some.injEq, Prod.mk.injEq] at h; exact .inl ⟨rfl, h.2.symm⟩
  | some x =>
    simp only [Option.map_some, optI, Option.map_eq_some_iff, Prod.mk.injEq] at h
    obtain ⟨⟨p, i⟩, h1, rfl, rfl⟩ := h
    obtain ⟨k, hk, _⟩ := svI_ok h1 hp (hρ x)
    exact .inr ⟨x, k, i, rfl, rfl, hk⟩

omit [GTab] in
theorem sbound {k : IntKind} {i : Int} {y : Nat} (code : BoundsCode) (h0 : 0 ≤ i) (h1 : i ≤ (y : Int)) : (Instr.sliceBound (.int k i) y code).run P w = .ok i.toNat w := by
  have : 0 ≤ i ∧ i ≤ (y : Int) := ⟨h0, h1⟩
  simp [Instr.sliceBound, asIntOf, this]

omit [GTab] in
/-- Bounds as Go looks at them. -/
theorem boundsE_ok {ρc : Operand → Value} {olo ohi omx : Option Operand} {lo hi mx : Option Int} {n cap : Nat} (hc : n ≤ cap) {ps : List Prop} {l c : Nat} (h : boundsE lo hi mx n = (ps, l, c)) (hp : allP ps) (sl : Bool)
    (h1 : (olo = none ∧ lo = none) ∨ ∃ x k i, olo = some x ∧ lo = some i ∧ ρc x = .int k i) (h2 : (ohi = none ∧ hi = none) ∨ ∃ x k i, ohi = some x ∧ hi = some i ∧ ρc x = .int k i)
    (h3 : (omx = none ∧ mx = none) ∨ ∃ x k i, omx = some x ∧ mx = some i ∧ ρc x = .int k i) (hh : hi = none → mx = none) :
    ∃ mm, (Instr.sliceBounds sl n cap (olo.map ρc) (ohi.map ρc) (omx.map ρc)).run P w = .ok (l, l + c, mm) w ∧ l + c ≤ mm ∧ mm ≤ cap ∧ l + c ≤ n := by
  simp only [boundsE, Prod.mk.injEq] at h
  obtain ⟨rfl, rfl, rfl⟩ := h
  rcases h1 with ⟨rfl, rfl⟩ | ⟨xl, kl, il, rfl, rfl, el⟩ <;> rcases h2 with ⟨rfl, rfl⟩ | ⟨xh, kh, ih, rfl, rfl, eh⟩ <;> rcases h3 with ⟨rfl, rfl⟩ | ⟨xm, km, im, rfl, rfl, em⟩
  all_goals first | (exfalso; simp at hh; done) | skip
  all_goals simp only [bLo, bMid, bHi, bMax, List.nil_append, List.append_nil, List.cons_append, allP, Option.getD_some, Option.getD_none] at hp ⊢
  · exact ⟨cap, by simp [Instr.sliceBounds], by simp; omega, Nat.le_refl _, by simp⟩
  · have e1 : 0 + (ih.toNat - 0) = ih.toNat := by omega
    refine ⟨cap, ?_, by omega, Nat.le_refl _, by omega⟩
    simp only [Instr.sliceBounds, Option.map_some, Option.map_none, Sem.run_bind, Sem.run_pure, Result.andThen_ok, eh, sbound _ (show 0 ≤ ih by omega) (show ih ≤ (cap : Int) by omega)]
    simp
  · refine ⟨im.toNat, ?_, by omega, by omega, by omega⟩
    simp only [Instr.sliceBounds, Option.map_some, Option.map_none, Sem.run_bind, Sem.run_pure, Result.andThen_ok, eh, em, sbound _ (show 0 ≤ im by omega) (show im ≤ (cap : Int) by omega), sbound _ (show 0 ≤ ih by omega) (show ih ≤ ((im.toNat : Nat) : Int) by omega)]
    simp
  · have e1 : il.toNat + (((n : Int)).toNat - il.toNat) = n := by omega
    refine ⟨cap, ?_, by omega, Nat.le_refl _, by omega⟩
    rw [e1]
    simp only [Instr.sliceBounds, Option.map_some, Option.map_none, Sem.run_bind, Sem.run_pure, Result.andThen_ok, Option.isSome_none, if_false, Bool.false_eq_true, el, sbound _ (show 0 ≤ il by omega) (show il ≤ (n : Int) by omega)]
  · have e1 : il.toNat + (ih.toNat - il.toNat) = ih.toNat := by omega
    refine ⟨cap, ?_, by omega, Nat.le_refl _, by omega⟩
    rw [e1]
    simp only [Instr.sliceBounds, Option.map_some, Option.map_none, Sem.run_bind, Sem.run_pure, Result.andThen_ok, Option.isSome_none, if_false, Bool.false_eq_true, eh, el, sbound _ (show 0 ≤ ih by omega) (show ih ≤ (cap : Int) by omega), sbound _ (show 0 ≤ il by omega) (show il ≤ ((ih.toNat : Nat) : Int) by omega)]
  · have e1 : il.toNat + (ih.toNat - il.toNat) = ih.toNat := by omega
    refine ⟨im.toNat, ?_, by omega, by omega, by omega⟩
    rw [e1]
    simp only [Instr.sliceBounds, Option.map_some, Sem.run_bind, Sem.run_pure, Result.andThen_ok, Option.isSome_some, if_true, eh, el, em, sbound _ (show 0 ≤ im by omega) (show im ≤ (cap : Int) by omega), sbound _ (show 0 ≤ ih by omega) (show ih ≤ ((im.toNat : Nat) : Int) by omega), sbound _ (show 0 ≤ il by omega) (show il ≤ ((ih.toNat : Nat) : Int) by omega)]

end
end Go.SL

/- S-logic, part 14: slicing, conversions, len, max, append, copy. -/
namespace Go.SL
open Go
variable [GTab]

section
variable {P : Program} {D : TI} (gd : Good P D) {ρ : Operand → SV} {ρc : Operand → Value} {m : Nat} {E : Env} (hρ : ∀ x, SR E (ρ x) (ρc x)) {L : Nat → Option Blk} {w : World} (H : HR E L w) (hm : (E m).st = .dead)
  (ty : TypeId) (pos : String) (after : Array Edge) (gu : Option (Nat × Bool)) (dst : Option Tmp) {e : Eff}

include gd H hρ in
theorem slice_ok (T : TypeId) (x : Operand) (lo hi mx : Option Operand) (he : opE D ρ L m (.slice T x lo hi mx) = some e) (hp : allP e.pre) : OpOk P ρc ⟨dst, .slice T x lo hi mx, ty, pos, after, gu⟩ m E L w e := by
  simp only [opE, Option.bind_eq_some_iff, Option.map_eq_some_iff] at he
  obtain ⟨⟨ps, a⟩, ha, ⟨qs, lo'⟩, hlo, ⟨rs, hi'⟩, hhi, ⟨ss, mx'⟩, hmx, e', he', rfl⟩ := he
  simp only [allP_append] at hp
  obtain ⟨⟨⟨⟨hp1, hp2⟩, hp3⟩, hp4⟩, hp5⟩ := hp
  have hv := SV.val_ok ha hp1 (hρ x)
  have k1 := optI_ok hρ hlo hp2
  have k2 := optI_ok hρ hhi hp3
  have k3 := optI_ok hρ hmx hp4
  unfold sliceE at he'
  dsimp only at he' hv
  split at he'
  · -- an array's pointer
    rename_i kk b t i p
    split at he'
    · rename_i n u n' u' hT hsub
      split at he'
      · rename_i hu
        simp only [decide_eq_true_eq] at hu
        obtain ⟨rfl, rfl⟩ := hu
        split at he'
        · cases he'
        · rename_i hh
          obtain ⟨el, hue, hte⟩ := arr_at gd hT
          have hr := (AR.ref hv).1
          simp only [VR] at hr
          obtain ⟨hst, hr⟩ := hr
          generalize hb : boundsE lo' hi' mx' n' = bb at he'
          obtain ⟨bs, l, c⟩ := bb
          simp only [Option.bind_eq_some_iff] at he'
          obtain ⟨k, hk, ⟨qs, ys⟩, hels, he'⟩ := he'
          dsimp only at he'
          split at he'
          case h_2 => cases he'
          rename_i hkt heq
          simp only [decide_eq_true_eq] at hkt
          cases heq
          cases he'
          simp only [allP_append, allP] at hp5
          obtain ⟨hp5, hqs, hnb⟩ := hp5
          obtain ⟨mm, hrun, h1, h2, h3⟩ := boundsE_ok (w := w) (P := P) (Nat.le_refl n') hb hp5 false k1 k2 k3 (fun h => by cases h' : mx' <;> simp_all)
          have hsub' : subt (i :: p) (.arr 0 t) = some (.arr n' u') := by simpa [subt] using hsub
          let ad := (E b).base + offp (i :: p) (.arr 0 t)
          refine OpOk.same H (v := .slice (some (if mm = l then ⟨(E b).blk, ad, none⟩ else ⟨(E b).blk, ad + l * u'.size, none⟩)) c (mm - l)) ?_ (AR.mkRef ?_ rfl) rfl
          · have e1 : l + c - l = c := by omega
            simp only [execOp, Instr.sliceAt, Sem.run_bind, run_underlying hue, Result.andThen_ok, hr, Instr.sureAddr, Sem.run_pure, hrun, run_sizeOf gd hte, Addr.add_spot, e1]
            rfl
          · simp only [VR]
            right
            refine ⟨hst, mm - l, (if mm = l then ad else ad + l * u'.size), ?_, by omega, ?_, ?_⟩
            · split <;> rfl
            · simp only [big]; omega
            · by_cases h : mm = l
              · left; omega
              · right
                rw [if_neg h]
                have hbk := H.blk b k hk
                have hyl := Blk.els_arr hbk hst hels hqs (hkt ▸ hsub)
                obtain ⟨cs, T0, fr, A, B, C, q1, q2, q3, q4, _, q6, _⟩ := Blk.els_ok hbk hst hels hqs
                have hbl := LR.len (fun x c hx => CR.len u' x c hx) _ _ q4
                have hcl : cs.size = A.length + B.length + C.length := by rw [← Array.length_toList, q2]; simp only [List.length_append]
                have h7 : (l + (mm - l)) * u'.size ≤ n' * u'.size := Nat.mul_le_mul_right _ (by omega)
                rw [Nat.add_mul] at h7
                rw [hyl] at hbl
                rw [hkt] at q3
                have hes : esz (i :: p) t = u'.size := by unfold esz; rw [hsub']
                rw [offp_snoc _ _ _ _ _ hsub', hes]
                refine ⟨by simp only [ad]; omega, by omega⟩
      · cases he'
    · cases he'
  · -- a slice
    rename_i kk b t p o n
    split at he'
    · rename_i u n' u' hsl hsub
      split at he'
      · rename_i hu
        simp only [decide_eq_true_eq] at hu
        subst hu
        split at he'
        · cases he'
        · rename_i hh
          simp only [Option.bind_eq_some_iff] at hsl
          obtain ⟨el, hse, hte⟩ := hsl
          obtain ⟨ie, hue, _, _⟩ := gd.slice hse
          have hr := (AR.ref hv).1
          simp only [VR] at hr
          generalize hb : boundsE lo' hi' mx' n = bb at he'
          obtain ⟨bs, l, c⟩ := bb
          cases he'
          have hhh : hi' = none → mx' = none := (fun h => by cases h' : mx' <;> simp_all)
          rcases hr with ⟨hst, rfl, rfl, hr⟩ | ⟨hst, cap, a, hr, hcap, hbig, hor⟩
          · obtain ⟨mm, hrun, h1, h2, h3⟩ := boundsE_ok (w := w) (P := P) (Nat.le_refl 0) hb hp5 true k1 k2 k3 hhh
            have : l = 0 := by omega
            have : c = 0 := by omega
            have : mm = 0 := by omega
            subst l c mm
            refine OpOk.same H (v := .slice none 0 0) ?_ (AR.mkRef ?_ rfl) rfl
            · simp only [execOp, Instr.sliceAt, Instr.slice, Sem.run_bind, run_underlying hue, Result.andThen_ok, hr, hrun, run_sizeOf gd hte, Sem.run_pure]
              simp
            · simp only [VR]; exact .inl ⟨hst, trivial, trivial, trivial⟩
          · obtain ⟨mm, hrun, h1, h2, h3⟩ := boundsE_ok (w := w) (P := P) hcap hb hp5 true k1 k2 k3 hhh
            refine OpOk.same H (v := .slice (some (if mm = l then ⟨(E b).blk, a, none⟩ else ⟨(E b).blk, a + l * u'.size, none⟩)) c (mm - l)) ?_ (AR.mkRef ?_ rfl) rfl
            · have e1 : l + c - l = c := by omega
              simp only [execOp, Instr.sliceAt, Instr.slice, Sem.run_bind, run_underlying hue, Result.andThen_ok, hr, hrun, run_sizeOf gd hte, Sem.run_pure, Option.map_some, Addr.add_spot, e1]
              split <;> rfl
            · simp only [VR]
              right
              refine ⟨hst, mm - l, (if mm = l then a else a + l * u'.size), by split <;> rfl, by omega, by omega, ?_⟩
              by_cases h : mm = l
              · left; omega
              · right
                rw [if_neg h]
                rcases hor with h0 | ⟨ha', hcs⟩
                · omega
                · have hes : esz p t = u'.size := by unfold esz; rw [hsub]
                  rw [offp_snoc _ _ _ _ _ hsub, hes] at hcs
                  refine ⟨by rw [ha', offp_snoc _ _ _ _ _ hsub, offp_snoc _ _ _ _ _ hsub, Nat.add_mul]; omega, ?_⟩
                  rw [offp_snoc _ _ _ _ _ hsub, hes]
                  have h6 : (l + (mm - l)) * u'.size ≤ cap * u'.size := Nat.mul_le_mul_right _ (by omega)
                  rw [Nat.add_mul] at h6
                  rw [Nat.add_mul]
                  omega
      · cases he'
    · cases he'
  · -- nil
    rename_i kk
    split at he'
    · rename_i el hse
      obtain ⟨ie, hue, hie, _⟩ := gd.slice hse
      split at he'
      · cases he'
      · rename_i hh
        generalize hb : boundsE lo' hi' mx' 0 = bb at he'
        obtain ⟨bs, l, c⟩ := bb
        cases he'
        have hhh : hi' = none → mx' = none := (fun h => by cases h' : mx' <;> simp_all)
        have hr := (AR.ref hv).1
        simp only [VR] at hr
        obtain ⟨mm, hrun, h1, h2, h3⟩ := boundsE_ok (w := w) (P := P) (Nat.le_refl 0) hb hp5 true k1 k2 k3 hhh
        have e1 : l = 0 := by omega
        have e2 : c = 0 := by omega
        have e3 : mm = 0 := by omega
        subst e1 e2 e3
        have hsz : (sizeOf el).run P w = .ok ie.size w := by simp [sizeOf, typeInfo, hie]
        refine OpOk.same H (v := .slice none 0 0) ?_ (AR.mkRef (by simp only [VR]) rfl) rfl
        simp only [execOp, Instr.sliceAt, Instr.slice, Sem.run_bind, run_underlying hue, Result.andThen_ok, hr, hrun, hsz, Sem.run_pure]
        simp
    · cases he'
  · -- a string
    rename_i s
    split at he'
    · rename_i hT
      generalize hb : boundsE lo' hi' none (ByteArray.size s) = bb at he'
      obtain ⟨bs, l, c⟩ := bb
      cases he'
      obtain ⟨hr, hsz⟩ := AR.str hv
      have hmn : mx = none := by
        rcases k3 with ⟨h, _⟩ | ⟨_, _, _, _, h, _⟩
        · exact h
        · cases h
      subst hmn
      obtain ⟨mm, hrun, h1, h2, h3⟩ := boundsE_ok (w := w) (P := P) (Nat.le_refl _) hb hp5 false k1 k2 (.inl ⟨rfl, rfl⟩) (fun _ => rfl)
      obtain ⟨_, d, _, _, hd, -, -, -, hx⟩ := gd.info hT
      cases d <;> simp only [descOk, Bool.false_eq_true] at hx
      refine OpOk.same H (v := .string (ByteArray.extract s l (l + c))) ?_ (AR.mkStr (E := E) ?_) rfl
      · simp only [Option.map_none] at hrun
        simp only [execOp, Instr.sliceAt, Instr.slice, Sem.run_bind, run_underlying hd, Result.andThen_ok, hr, Option.map_none, Option.isSome_none, Bool.false_eq_true, if_false, Sem.run_pure, hrun]
      · rw [ByteArray.size_extract]; omega
    · cases he'
  · cases he'


include gd in
omit [GTab] in
theorem lenE_ok {a v : AV} {u : Value} {T ty : TypeId} (h : lenE D T a = some v) (ha : AR E a u) : ∃ r, (Builtin.len_ #[T] ty #[u]).run P w = .ok r w ∧ AR E v r := by
  unfold lenE at h
  split at h
  · simp only [Option.map_eq_some_iff] at h
    obtain ⟨el, he, rfl⟩ := h
    obtain ⟨ie, hue, _, _⟩ := gd.slice he
    have := (AR.ref ha).1
    simp only [VR] at this
    subst this
    exact ⟨.int .i64 0, by simp [Builtin.len_, run_underlying hue, goInt], AR.mkInt (by decide) (by decide)⟩
  · rename_i kk b t p o n
    simp only [Option.map_eq_some_iff] at h
    obtain ⟨el, he, rfl⟩ := h
    obtain ⟨ie, hue, _, _⟩ := gd.slice he
    have := (AR.ref ha).1
    simp only [VR] at this
    rcases this with ⟨_, rfl, _, rfl⟩ | ⟨_, cap, ad, rfl, h1, h2, _⟩
    · exact ⟨.int .i64 0, by simp [Builtin.len_, run_underlying hue, goInt], AR.mkInt (by decide) (by decide)⟩
    · refine ⟨.int .i64 n, by simp [Builtin.len_, run_underlying hue, goInt], AR.mkInt ?_ ?_⟩
      · have : IntKind.i64.min = -9223372036854775808 := rfl
        omega
      · have : IntKind.i64.max = 9223372036854775807 := rfl
        simp only [big] at h2; omega
  · rename_i s
    split at h
    · rename_i hT
      cases h
      obtain ⟨rfl, hs⟩ := AR.str ha
      obtain ⟨_, d, _, _, hd, -, -, -, hx⟩ := gd.info hT
      cases d <;> simp only [descOk, Bool.false_eq_true] at hx
      refine ⟨.int .i64 (ByteArray.size s), by simp [Builtin.len_, run_underlying hd, goInt], AR.mkInt ?_ ?_⟩
      · have : IntKind.i64.min = -9223372036854775808 := rfl
        omega
      · have : IntKind.i64.max = 9223372036854775807 := rfl
        simp only [big] at hs; omega
    · cases h
  · rename_i n t l
    split at h
    · rename_i hT
      cases h
      simp only [decide_eq_true_eq] at hT
      obtain ⟨el, hue, _⟩ := arr_at gd hT.1
      refine ⟨.int .i64 n, by simp [Builtin.len_, run_underlying hue, goInt], AR.mkInt ?_ ?_⟩
      · have : IntKind.i64.min = -9223372036854775808 := rfl
        omega
      · have : IntKind.i64.max = 9223372036854775807 := rfl
        omega
    · cases h
  · cases h

omit [GTab] in
theorem max2E_ok {b : Bool} {a y v : AV} {u u' : Value} (h : max2E b a y = some v) (ha : AR E a u) (hy : AR E y u') : ∃ r, ((if b then Builtin.max2 else Builtin.min2) u u').run P w = .ok r w ∧ AR E v r := by
  unfold max2E at h
  split at h
  · rename_i k x k' y
    obtain ⟨rfl, hx⟩ := AR.int ha
    obtain ⟨rfl, hy⟩ := AR.int hy
    split at h
    · obtain rfl : k = k' := by simpa using ‹decide (k = k') = true›
      cases h
      refine ⟨.int k (max x y), ?_, AR.mkInt (by omega) (by omega)⟩
      simp only [if_true, Builtin.max2, Sem.run_pure]
      congr 2
      split <;> omega
    · obtain rfl : k = k' := by simpa using ‹decide (k = k') = true›
      cases h
      refine ⟨.int k (min x y), ?_, AR.mkInt (by omega) (by omega)⟩
      simp only [Bool.false_eq_true, if_false, Builtin.min2, Sem.run_pure]
      congr 2
      split <;> omega
    · cases h
  · cases h

omit [GTab] in
theorem maxE_go {b : Bool} : ∀ (as : List AV) (a v : AV) (us : List Value) (u : Value), maxGo b a as = some v → AR E a u → ARs E as us → ∃ r, (us.foldlM (if b then Builtin.max2 else Builtin.min2) u).run P w = .ok r w ∧ AR E v r
  | [], a, v, us, u, h, ha, hs => by
    simp only [maxGo, Option.some.injEq] at h; subst h
    simp only [ARs] at hs; subst hs
    exact ⟨u, by simp, ha⟩
  | y :: as, a, v, us, u, h, ha, hs => by
    obtain ⟨u', us', rfl, h1, h2⟩ := hs
    simp only [maxGo, Option.bind_eq_some_iff] at h
    obtain ⟨c, hc, h⟩ := h
    obtain ⟨r1, hr1, hrr⟩ := max2E_ok (P := P) (w := w) hc ha h1
    obtain ⟨r, hr, hx⟩ := maxE_go as c v us' r1 h hrr h2
    refine ⟨r, ?_, hx⟩
    simp only [List.foldlM_cons, Sem.run_bind, hr1, Result.andThen_ok]
    exact hr

omit [GTab] in
theorem maxE_ok {b : Bool} {as : List AV} {v : AV} {us : List Value} (h : maxE b as = some v) (hs : ARs E as us) : ∃ r, ((match us with | [] => stuck "max: at least one argument expected" | u :: rest => rest.foldlM (if b then Builtin.max2 else Builtin.min2) u) : Sem Value).run P w = .ok r w ∧ AR E v r := by
  unfold maxE at h
  split at h
  · obtain ⟨u, us', rfl, h1, h2⟩ := hs
    exact maxE_go _ _ v us' u h h1 h2
  · cases h

/-- The elements of a slice: the cells that hold them. -/
theorem elsE_ok {t : Ty} {r : Ref} {ps : List Prop} {ys : List t.I} {f : List Nat} {u : Value} (H : HR E L w) (h : elsE L t r = some (ps, ys, f)) (hp : allP ps) (hv : VR E r u) :
    ∃ a cap cs, u = .slice a ys.length cap ∧ LR (CR E t) ys cs ∧ (a = none → ys = []) ∧ ∀ x, a = some x → ∀ j v, cs[j]? = some v → w.cell? (x.add j) = some v := by
  unfold elsE at h
  split at h
  · cases h
    simp only [VR] at hv
    subst hv
    exact ⟨none, 0, [], rfl, rfl, fun _ => rfl, fun x hx => by cases hx⟩
  · rename_i b u' p o n
    simp only [Option.bind_eq_some_iff] at h
    obtain ⟨k, hk, h⟩ := h
    split at h
    · rename_i hkt
      simp only [decide_eq_true_eq] at hkt
      subst hkt
      simp only [Option.map_eq_some_iff, Prod.mk.injEq] at h
      obtain ⟨⟨qs, l⟩, h1, rfl, rfl, rfl⟩ := h
      simp only [allP_append, allP] at hp
      simp only [VR] at hv
      have hlen : (seg l o n).length = n := by simp [seg]; omega
      rcases hv with ⟨_, rfl, _, rfl⟩ | ⟨hst, cap, a, rfl, hcap, _, hor⟩
      · refine ⟨none, 0, [], by simp [seg], ?_, fun _ => by simp [seg], fun x hx => by cases hx⟩
        simp [seg, LR]
      · obtain ⟨cs, T, fr, A, B, C, q1, q2, q3, q4⟩ := Blk.els_seg (H.blk b k hk) hst h1 hp.1 hp.2
        refine ⟨_, cap, B, by rw [hlen], q4, (fun h => by cases h), ?_⟩
        intro x hx j v hj
        cases hx
        rcases hor with h0 | ⟨ha, _⟩
        · exfalso
          subst h0
          have hn0 : n = 0 := by omega
          have : B = [] := by
            have := LR.len (fun x c hx => CR.len t x c hx) _ _ q4
            rw [hlen, hn0] at this
            simpa using this
          rw [this] at hj; simp at hj
        · rw [Addr.add_spot, cell_of_row w _ _ cs T fr q1, ← Array.getElem?_toList, q2, ha, ← q3]
          have hjl : j < B.length := by
            rcases Nat.lt_or_ge j B.length with h | h
            · exact h
            · rw [List.getElem?_eq_none h] at hj; cases hj
          rw [List.append_assoc, List.getElem?_append_right (by omega), Nat.add_sub_cancel_left, List.getElem?_append_left hjl]
          exact hj
    · cases h
  · cases h

end
end Go.SL

/- S-logic, part 15: append, copy, conversions; all operations. -/
namespace Go.SL
open Go
variable [GTab]

section
variable {P : Program} {D : TI} (gd : Good P D) {ρ : Operand → SV} {ρc : Operand → Value} {m : Nat} {E : Env} (hρ : ∀ x, SR E (ρ x) (ρc x)) {L : Nat → Option Blk} {w : World} (H : HR E L w) (hm : (E m).st = .dead)
  (ty : TypeId) (pos : String) (after : Array Edge) (gu : Option (Nat × Bool)) (dst : Option Tmp) {e : Eff}

/-- Killing one block, and laying another one (in its place, or anew). -/
theorem HR.kill {E : Env} {L : Nat → Option Blk} {w : World} (H : HR E L w) (b : Nat) : HR E (fun j => if j = b then none else L j) w where
  gl := H.gl
  blk := fun i k hi => by
    split at hi
    · cases hi
    · exact H.blk i k hi
  inj := fun i j k l hi hj => by
    split at hi
    · cases hi
    · split at hj
      · cases hj
      · exact H.inj i j k l hi hj

omit [GTab] in
theorem lim_big : lim ≤ big := by decide

omit [GTab] in
theorem capBound {w : World} {need old : Nat} {e : TypeId} (h : need ≤ lim) : grownCap w need old e ≤ big :=
  grownCap_le_maxLen w need old e (by simp only [lim] at h; simp only [maxLen]; omega)

/-- A grown row: new memory. -/
theorem grow_ok (H : HR E L w) (hm : (E m).st = .dead) {t : Ty} {xs : List t.I} {cells : List Value} (hx : LR (CR E t) xs cells) (el : TypeId) (z : Array Value) (hz : z.size = t.size) (cap : Nat) (hcap : xs.length ≤ cap) (hb : cap ≤ big) :
    ∃ E', HR E' (updL L [(m, some ⟨false, false, t, xs⟩)]) (w.drew.alloc (.cells (cells.toArray ++ Builtin.zeroCells z (cap - xs.length)) el)) ∧ Fr E w E' (w.drew.alloc (.cells (cells.toArray ++ Builtin.zeroCells z (cap - xs.length)) el)) ∧
      (∀ i, (E' i).st ≠ .dead → (E i).st ≠ .dead ∨ i = m) ∧ VR E' (.slice m t [] 0 xs.length) (.slice (some ⟨w.heap.size, 0, none⟩) xs.length cap) := by
  let cs := cells.toArray ++ Builtin.zeroCells z (cap - xs.length)
  have hcl := LR.len (fun x c hx => CR.len t x c hx) _ _ hx
  have hsz : cs.size = cap * t.size := by
    simp only [cs, Array.size_append, List.size_toArray, hcl, size_zeroCells, hz, ← Nat.add_mul]
    congr 1; omega
  let l : Loc := ⟨w.heap.size, 0, cs.size, .real, true⟩
  have hw : ∀ k, k < w.heap.size → (w.drew.alloc (.cells cs el)).heap[k]? = w.heap[k]? := fun k hk => heap_alloc_old w.drew _ k hk
  refine ⟨updE E m l, H.new hm ?_ (Nat.le_refl _) hw, Fr.ofNew hm (Nat.le_refl _) (by simp) hw rfl rfl rfl, fun i hi => ?_, ?_⟩
  · refine BR.ofCells ?_ (by simp [l]) (Blk.notMap rfl)
    show BC _ _ _ _
    refine ⟨cs, el, (0, 0), heap_alloc_new w.drew _, by simp [l], ⟨[], cells, (Builtin.zeroCells z (cap - xs.length)).toList, by simp [cs], rfl, LR.imp' (fun x c hx => CR.mono (updE_mono hm) hx) _ _ hx⟩, fun _ => ⟨rfl, fun o _ _ => by omega⟩⟩
  · by_cases e : i = m
    · exact .inr e
    · have : updE E m l i = E i := by simp [updE, e]
      rw [this] at hi; exact .inl hi
  · simp only [VR]
    right
    exact ⟨by simp [updE, l], cap, 0, by simp [updE, l], hcap, hb, .inr ⟨by simp [updE, l, offp], by simp [updE, l, hsz, offp, esz, subt]⟩⟩

include gd in
theorem appE_ok {T _T' : TypeId} {s x : Ref} {us ux : Value} {ty : TypeId} (H : HR E L w) (hm : (E m).st = .dead) (hmL : ∀ b k, L b = some k → b ≠ m) (he : appE D L m T s x = some e) (hp : allP e.pre) (hs : VR E s us) (hx : VR E x ux) :
    ∃ v w' E', (Builtin.append_ #[T, T] ty #[us, ux]).run P w = .ok v w' ∧ SR E' e.v v ∧ HR E' (updL L e.upd) w' ∧ Fr E w E' w' ∧ (∀ i, (E' i).st ≠ .dead → (E i).st ≠ .dead ∨ (i ∈ e.upd.map (·.1) ∧ m ≤ i)) := by
  simp only [appE, Option.bind_eq_some_iff] at he
  obtain ⟨el, hsl, t, hT, ⟨ps, ys, fx⟩, hy, he⟩ := he
  obtain ⟨ie, hue, hie, hby⟩ := gd.slice hsl
  obtain ⟨ie', _, z, hie', _, hsz, hz0, hza, _⟩ := gd.info hT
  rw [hie] at hie'; cases hie'
  have hzs : z.cells.size = t.size := by rw [← Array.length_toList]; exact CR.len _ _ _ (hza E).cells
  dsimp only at he
  split at he
  · split at he
    · cases he
    · rename_i hts
      cases he
      simp only [allP_append, allP] at hp
      obtain ⟨hp1, hp2, hp3⟩ := hp
      obtain ⟨a, cap, cs, rfl, hcs, hnone, hcell⟩ := elsE_ok H hy hp1 hx
      simp only [VR] at hs
      subst hs
      have hcl := LR.len (fun x c hx => CR.len t x c hx) _ _ hcs
      cases a with
      | none => exfalso; have := hnone rfl; rw [this] at hp2; simp at hp2
      | some ad =>
        have hlimn : ys.length ≤ lim := by
          have h1 : 0 < D.bytes el := by
            have := of_decide_eq_false hts
            omega
          have : ys.length * 1 ≤ ys.length * D.bytes el := Nat.mul_le_mul_left _ h1
          omega
        have hr := run_append_nil (P := P) w T ty el ie z hue hie hz0 ad ys.length cap cs (by rw [hcl, hsz]) (hcell ad rfl) hp2 (by have := lim_big; simp only [lim] at hlimn; omega) (by rw [hby]; simp only [lim] at hp3; omega)
        obtain ⟨E', h1, h2, h3, h4⟩ := grow_ok H hm hcs el z.cells hzs (grownCap w ys.length 0 el) (grownCap_ge w _ _ _) (capBound hlimn)
        refine ⟨_, _, E', hr, AR.mkRef h4 rfl, h1, h2, fun i hi => ?_⟩
        rcases h3 i hi with h | h
        · exact .inl h
        · exact .inr ⟨by simp [h], Nat.le_of_eq h.symm⟩
  · rename_i b u o n
    simp only [Option.bind_eq_some_iff] at he
    obtain ⟨k, hk, he⟩ := he
    split at he
    · rename_i hro hku hfx hts
      simp only [Option.map_eq_some_iff] at he
      obtain ⟨⟨qs, l⟩, hl, rfl⟩ := he
      simp only [decide_eq_true_eq] at hku
      subst hku
      have hts := of_decide_eq_false hts
      simp only [Blk.els, Blk.notMap hro, Option.map_eq_some_iff, Prod.mk.injEq] at hl
      obtain ⟨l', hl1, rfl, rfl⟩ := hl
      have := AV.as_eq hl1
      simp only [AV.mk.injEq, Ty.arr.injEq, true_and] at this
      obtain ⟨htt, hxx⟩ := this
      subst htt
      cases hxx
      simp only [allP_append, allP] at hp
      obtain ⟨hp1, hp2, hp3⟩ := hp
      obtain ⟨a, cap', cs, rfl, hcs, hnone, hcell⟩ := elsE_ok H hy hp1 hx
      have hcl := LR.len (fun x c hx => CR.len k.t x c hx) _ _ hcs
      have hlimn : n + ys.length ≤ lim := by
        have h1 : 0 < D.bytes el := by omega
        have : (n + ys.length) * 1 ≤ (n + ys.length) * D.bytes el := Nat.mul_le_mul_left _ h1
        omega
      have hbm := hmL b k hk
      have hblk := H.blk b k hk
      simp only [VR] at hs
      have fin : ∀ (v : Value) (w' : World) (E' : Env) (xs : List k.t.I), HR E' (updL (fun j => if j = b then none else L j) [(m, some ⟨false, false, k.t, xs⟩)]) w' → HR E' (updL L [(b, none), (m, some ⟨false, false, k.t, xs⟩)]) w' := fun _ _ _ _ h => h
      have H' := HR.kill H b
      rcases hs with ⟨hst, rfl, _, rfl⟩ | ⟨hst, cap, ad, rfl, hcap, hcb, hor⟩
      · -- nil
        have hxs : k.xs = [] := by
          unfold BR at hblk; rw [hst] at hblk; exact hblk
        have hdrop : k.xs.drop o ++ ys = ys := by simp [hxs]
        rw [hdrop]
        simp only [Nat.zero_add] at hlimn hp3 ⊢
        by_cases hy0 : ys.length = 0
        · have hyn : ys = [] := List.length_eq_zero_iff.1 hy0
          have hcs0 : cs = [] := by rw [hyn] at hcs; simpa [LR] using hcs
          refine ⟨.slice none 0 0, w, updE E m ⟨0, 0, 0, .virt, true⟩, ?_, ?_, fin .nilFunc _ _ _ ?_, ?_, ?_⟩
          · subst hyn
            cases a with
            | none => simp [Builtin.append_, run_underlying hue, sizeOf, typeInfo, hie, Builtin.lenOf, Builtin.firstCells]
            | some ad => simp [Builtin.append_, run_underlying hue, sizeOf, typeInfo, hie, Builtin.lenOf, Builtin.firstCells, loadCells, loadCellsFrom]
          · refine AR.mkRef ?_ rfl
            simp only [VR]
            exact .inl ⟨by simp [updE], hy0, trivial, trivial⟩
          · exact {
              gl := H.gl.sub fun i hr hrw => by
                by_cases ei : i = m
                · simp [updE, ei] at hr
                · simp only [updE, ei, if_false] at hr hrw ⊢
                  exact ⟨i, hr, hrw, rfl⟩
              blk := fun j c hj => by
                simp only [updL] at hj
                split at hj
                · rename_i ej; subst ej; cases hj
                  show BR (updE E j _ j) _ _ _
                  simp only [updE, if_true, BR]
                  exact hyn
                · rename_i ej
                  have he : updE E m ⟨0, 0, 0, .virt, true⟩ j = E j := by simp [updE, ej]
                  rw [he]
                  exact (H'.blk j c hj).mono (updE_mono hm)
              inj := fun j1 j2 c d hj1 hj2 hr1 hr2 hrw hee => by
                have e1 : j1 ≠ m := by rintro rfl; simp [updE] at hr1
                have e2 : j2 ≠ m := by rintro rfl; simp [updE] at hr2
                simp only [updL, e1, e2, if_false] at hj1 hj2
                simp only [updE, e1, e2, if_false] at hr1 hr2 hee hrw
                exact H'.inj j1 j2 c d hj1 hj2 hr1 hr2 hrw hee }
          · exact {
              env := updE_mono hm
              new := fun i hi hr => by
                by_cases ei : i = m
                · subst ei; simp [updE] at hr
                · simp [updE, ei, hi] at hr
              size := Nat.le_refl _
              keep := fun _ _ _ => rfl
              os := rfl
              tape := rfl
              output := rfl }
          · intro i hi
            by_cases ei : i = m
            · exact .inr ⟨by simp [ei], Nat.le_of_eq ei.symm⟩
            · simp only [updE, ei, if_false] at hi; exact .inl hi
        · cases a with
          | none => exfalso; exact hy0 (by rw [hnone rfl]; rfl)
          | some ad =>
            have hr := run_append_nil (P := P) w T ty el ie z hue hie hz0 ad ys.length cap' cs (by rw [hcl, hsz]) (hcell ad rfl) (by omega) (by have := lim_big; simp only [lim] at hlimn; omega) (by rw [hby]; simp only [lim] at hp3; omega)
            obtain ⟨E', h1, h2, h3, h4⟩ := grow_ok H' hm hcs el z.cells hzs (grownCap w ys.length 0 el) (grownCap_ge w _ _ _) (capBound hlimn)
            refine ⟨_, _, E', hr, AR.mkRef h4 rfl, fin .nilFunc _ _ _ h1, h2, fun i hi => ?_⟩
            rcases h3 i hi with h | h
            · exact .inl h
            · exact .inr ⟨by simp [h], Nat.le_of_eq h.symm⟩
      · -- a row
        have hb0 := hblk.cells hst (Blk.notMap hro)
        obtain ⟨cs0, T0, fr, hh, hsz0, ⟨front, cells, rest, e1, e2, e3⟩, hfz⟩ := hb0
        have hlx := LR.len (fun x c hx => CR.len k.t x c hx) _ _ e3
        have ho : o ≤ k.xs.length := by omega
        obtain ⟨s1, s2⟩ := LR.split (fun x c hx => CR.len k.t x c hx) k.xs cells o e3 ho
        have hdl : (k.xs.drop o).length = n := by simp; omega
        have hd1 := LR.len (fun x c hx => CR.len k.t x c hx) _ _ s2
        rw [hdl] at hd1
        have hall := LR.append _ _ _ _ s2 hcs
        have hlen2 : (k.xs.drop o ++ ys).length = n + ys.length := by rw [List.length_append, hdl]
        by_cases hroom : n + ys.length ≤ cap
        · -- in place
          have hf : (Builtin.firstCells ie.size ys.length (.slice a ys.length cap')).run P w = .ok cs.toArray w := by
            cases a with
            | none =>
              have : cs = [] := List.eq_nil_of_length_eq_zero (by rw [hcl, hnone rfl]; simp)
              rw [this]; simp [Builtin.firstCells]
            | some ax => exact run_firstCells_some (P := P) w ie.size ys.length ax ys.length cap' cs (by rw [hcl, hsz]) (hcell ax rfl)
          let l : Loc := ⟨(E b).blk, (E b).base + o * k.t.size, (E b).csz - o * k.t.size, .real, true⟩
          have hcells : cells.length = k.xs.length * k.t.size := hlx
          have hos : o * k.t.size ≤ cells.length := by rw [hcells]; exact Nat.mul_le_mul_right _ ho
          have hcsz : (E b).csz = cells.length + rest.length := by
            have : cs0.size = (front ++ cells ++ rest).length := by rw [← e1]; simp
            simp only [List.length_append] at this; omega
          -- what the store leaves
          have hstore : ∃ w', (storeCells ⟨(E b).blk, ad + n * ie.size, none⟩ cs).run P w = .ok () w' ∧ (∃ rest', w'.heap[(E b).blk]? = some (.cells (front ++ (cells ++ cs) ++ rest').toArray T0 fr) ∧ cs.length + rest'.length = rest.length) ∧
              (∀ j, j ≠ (E b).blk → w'.heap[j]? = w.heap[j]?) ∧ w'.heap.size = w.heap.size ∧ w'.os = w.os ∧ w'.tape = w.tape ∧ w'.output = w.output := by
            rcases hor with h0 | ⟨had, hcs'⟩
            · have : cs = [] := List.eq_nil_of_length_eq_zero (by rw [hcl]; have : ys.length = 0 := by omega
                                                                  rw [this]; simp)
              subst this
              refine ⟨w, by simp [storeCells], ⟨rest, ?_, by simp⟩, fun _ _ => rfl, rfl, rfl, rfl, rfl⟩
              rw [hh]
              have : cs0 = (front ++ (cells ++ []) ++ rest).toArray := by rw [List.append_nil, ← e1]
              rw [this]
            · have hoff : ad + n * ie.size = (front ++ cells).length := by
                rw [had, List.length_append, e2, hcells, hsz, ← hp2, Nat.add_mul]; simp [offp]; omega
              have hfit : cs.length ≤ rest.length := by
                have h7 : (o + cap) * k.t.size ≤ (E b).csz := by
                  have := hcs'
                  simp only [List.nil_append, offp, esz, subt, Nat.add_zero] at this
                  rw [Nat.add_mul]; exact this
                have h8 : (o + n + ys.length) * k.t.size ≤ (o + cap) * k.t.size := Nat.mul_le_mul_right _ (by omega)
                rw [hcl]
                rw [hp2, Nat.add_mul] at h8
                omega
              obtain ⟨w', r1, r2, r3, r4, r5, r6, r7⟩ := run_storeCells P (E b).blk (ad + n * ie.size) T0 fr cs 0 w cs0 (front ++ cells) (rest.take cs.length) (rest.drop cs.length) hh (by rw [e1]; simp) (by rw [hoff]; rfl) (by simp; omega)
                (fun v hv => CR.oneCell.go k.t ys cs hcs v hv) (fun j hj hj' => (hfz hro).2 j (by simp only [List.length_append, e2] at hoff; omega) hj')
              refine ⟨w', r1, ⟨rest.drop cs.length, by rw [r2]; simp, by simp; omega⟩, r3, r4, r5, r6, r7⟩
          obtain ⟨w', r1, ⟨rest', r2, r2'⟩, r3, r4, r5, r6, r7⟩ := hstore
          have hE : ∀ i, i ≠ m → updE E m l i = E i := fun i hi => by simp [updE, hi]
          refine ⟨.slice (some ⟨(E b).blk, ad, none⟩) (n + ys.length) cap, w', updE E m l, ?_, AR.mkRef ?_ rfl, fin .nilFunc _ _ _ ?_, ?_, ?_⟩
          · simp [Builtin.append_, run_underlying hue, sizeOf, typeInfo, hie, Builtin.lenOf, hroom, hf, Addr.add_spot, r1]
          · simp only [VR]
            right
            refine ⟨by simp [updE, l], cap, ad, by simp [updE, l], hroom, hcb, ?_⟩
            rcases hor with h0 | ⟨had, hcs'⟩
            · exact .inl h0
            · right
              refine ⟨by simp [updE, l, had, offp], ?_⟩
              have h7 := hcs'
              simp only [List.nil_append, offp, esz, subt, Nat.add_zero] at h7
              simp [updE, l, offp, esz, subt]; omega
          · exact {
              gl := (H.gl.put hst (hfz hro).1 r3).sub fun i hr hrw => by
                by_cases ei : i = m
                · exact ⟨b, hst, (hfz hro).1, by simp [updE, ei, l]⟩
                · rw [hE i ei] at hr hrw ⊢
                  exact ⟨i, hr, hrw, rfl⟩
              blk := fun j c hj => by
                simp only [updL] at hj
                split at hj
                · rename_i ej; subst ej; cases hj
                  show BR (updE E j l j) _ _ _
                  simp only [updE, if_true]
                  refine BR.ofCells ?_ rfl (Blk.notMap rfl)
                  refine ⟨_, T0, fr, r2, ?_, ⟨front ++ cells.take (o * k.t.size), cells.drop (o * k.t.size) ++ cs, rest', ?_, ?_, LR.imp' (fun x c hx => CR.mono (updE_mono hm) hx) _ _ hall⟩, fun _ => ⟨rfl, fun j1 h1 h2 => ?_⟩⟩
                  · simp [l]; omega
                  · simp only [← List.append_assoc]
                    congr 2
                    rw [List.append_assoc front, List.take_append_drop]
                  · simp [l, e2]; omega
                  · have : ((front ++ (cells ++ cs) ++ rest').toArray).size = cs0.size := by
                      have : cs0.size = (front ++ cells ++ rest).length := by rw [← e1]; simp
                      rw [this]; simp; omega
                    exact (hfz hro).2 j1 (by simp only [l] at h1; omega) (by omega)
                · rename_i ej
                  rw [hE j ej]
                  have hjb : j ≠ b := by rintro rfl; simp at hj
                  rw [if_neg hjb] at hj
                  refine BR.mono (updE_mono hm) (BR.world (fun hrj => r3 _ fun hee => hjb ?_) (H.blk j c hj))
                  exact (H.inj b j k c hk hj hst hrj (hfz hro).1 hee.symm).symm
              inj := fun j1 j2 c d hj1 hj2 hr1 hr2 hrw hee => by
                simp only [updL] at hj1 hj2
                by_cases e1 : j1 = m <;> by_cases e2 : j2 = m
                · rw [e1, e2]
                · exfalso
                  simp only [e2, if_false] at hj2
                  have hjb : j2 ≠ b := by rintro rfl; simp at hj2
                  rw [if_neg hjb] at hj2
                  rw [hE j2 e2] at hr2 hee
                  have : (updE E m l j1).blk = (E b).blk := by simp [updE, e1, l]
                  rw [this] at hee
                  exact hjb (H.inj b j2 k d hk hj2 hst hr2 (hfz hro).1 hee).symm
                · exfalso
                  simp only [e1, if_false] at hj1
                  have hjb : j1 ≠ b := by rintro rfl; simp at hj1
                  rw [if_neg hjb] at hj1
                  rw [hE j1 e1] at hr1 hee
                  have : (updE E m l j2).blk = (E b).blk := by simp [updE, e2, l]
                  rw [this] at hee
                  exact hjb (H.inj b j1 k c hk hj1 hst hr1 (hfz hro).1 hee.symm).symm
                · simp only [e1, e2, if_false] at hj1 hj2
                  rw [hE j1 e1] at hr1 hee hrw
                  rw [hE j2 e2] at hr2 hee
                  exact H'.inj j1 j2 c d hj1 hj2 hr1 hr2 hrw hee }
          · exact {
              env := updE_mono hm
              new := fun i hi hr => by
                by_cases ei : i = m
                · exact .inr ⟨b, hst, (hfz hro).1, by simp [updE, ei, l]⟩
                · rw [hE i ei, hi] at hr; cases hr
              size := Nat.le_of_eq r4.symm
              keep := fun j _ hj => r3 j fun ej => hj b hst (hfz hro).1 ej.symm
              os := r5
              tape := r6
              output := r7 }
          · intro i hi
            by_cases ei : i = m
            · exact .inr ⟨by simp [ei], Nat.le_of_eq ei.symm⟩
            · rw [hE i ei] at hi; exact .inl hi
        · -- anew
          have hfit : Builtin.nextslicecap (n + ys.length) cap * ie.bytes ≤ 281474976710656 := growslice_fits (by omega) (by rw [hby]; simp only [lim] at hp3; omega)
          have holds : ∀ j v, (cells.drop (o * k.t.size))[j]? = some v → w.cell? ((⟨(E b).blk, ad, none⟩ : Addr).add j) = some v := by
            intro j v hj
            rcases hor with h0 | ⟨had, _⟩
            · exfalso
              subst h0
              have hn0 : n = 0 := by omega
              have : cells.drop (o * k.t.size) = [] := List.eq_nil_of_length_eq_zero (by rw [hd1, hn0]; simp)
              rw [this] at hj; simp at hj
            · have hoff : ad = front.length + o * k.t.size := by rw [had, e2]; simp [offp]
              have hlt : o * k.t.size + j < cells.length := by
                rcases Nat.lt_or_ge (o * k.t.size + j) cells.length with h | h
                · exact h
                · rw [List.getElem?_drop, List.getElem?_eq_none h] at hj; cases hj
              rw [Addr.add_spot, cell_of_row w _ _ cs0 T0 fr hh, ← Array.getElem?_toList, e1, hoff]
              rw [List.append_assoc, List.getElem?_append_right (by omega), List.getElem?_append_left (by omega)]
              rw [List.getElem?_drop] at hj
              rw [← hj]; congr 1; omega
          cases a with
          | none =>
            exfalso
            have := hnone rfl
            rw [this] at hroom
            simp at hroom; omega
          | some ax =>
            have hr := run_append_grow (P := P) w T ty el ie z hue hie hz0 ⟨(E b).blk, ad, none⟩ n cap (cells.drop (o * k.t.size)) (by rw [hd1, hsz]) holds ax ys.length cap' cs (by rw [hcl, hsz]) (hcell ax rfl) (by omega) (by have := lim_big; simp only [lim] at hlimn; omega) hfit
            obtain ⟨E', h1, h2, h3, h4⟩ := grow_ok H' hm hall el z.cells hzs (grownCap w (n + ys.length) cap el) (by rw [hlen2]; exact grownCap_ge w _ _ _) (capBound hlimn)
            rw [hlen2] at h1 h2 h4
            have hea : (cells.drop (o * k.t.size)).toArray ++ cs.toArray = (cells.drop (o * k.t.size) ++ cs).toArray := by simp
            rw [hea] at hr
            refine ⟨_, _, E', hr, AR.mkRef h4 rfl, fin .nilFunc _ _ _ h1, h2, fun i hi => ?_⟩
            rcases h3 i hi with h | h
            · exact .inl h
            · exact .inr ⟨by simp [h], Nat.le_of_eq h.symm⟩
    · cases he
  · cases he

end
end Go.SL

/- S-logic, part 15b: copy; bytes and strings. -/
namespace Go.SL
open Go
variable [GTab]

section
variable {P : Program} {D : TI} (gd : Good P D) {ρ : Operand → SV} {ρc : Operand → Value} {m : Nat} {E : Env} (hρ : ∀ x, SR E (ρ x) (ρc x)) {L : Nat → Option Blk} {w : World} (H : HR E L w) (hm : (E m).st = .dead)
  (ty : TypeId) (pos : String) (after : Array Edge) (gu : Option (Nat × Bool)) (dst : Option Tmp) {e : Eff}

theorem HR.same {E : Env} {L : Nat → Option Blk} {w : World} (H : HR E L w) {i : Nat} {b b' : Blk} (hi : L i = some b) (hb : BR (E i) E b' w) : HR E (updL L [(i, some b')]) w where
  gl := H.gl
  blk := fun j c hj => by
    simp only [updL] at hj
    split at hj
    · rename_i e; subst e; cases hj; exact hb
    · exact H.blk j c hj
  inj := fun j k c d hj hk hrj hrk hrw he => by
    simp only [updL] at hj hk
    have aux : ∀ x y, (if x = i then some b' else L x) = some y → ∃ z, L x = some z := fun x y h => by
      split at h
      · rename_i e; exact ⟨b, e ▸ hi⟩
      · exact ⟨y, h⟩
    obtain ⟨c', hc'⟩ := aux _ _ hj
    obtain ⟨d', hd'⟩ := aux _ _ hk
    exact H.inj j k c' d' hc' hd' hrj hrk hrw he

omit [GTab] in
theorem Blk.wrEls_ok {l : Loc} {k k' : Blk} (hb : BR l E k w) (hr : l.st = .real) {p : List Nat} {t : Ty} {qs : List Prop} {ys z : List t.I} (h : k.els p t = some (qs, ys)) (hp : allP qs) (hw : k.wrEls t p z = some k')
    (hro : k.ro = false) (hz : z.length = ys.length) :
    ∃ cs T fr A B C, w.heap[l.blk]? = some (.cells cs T fr) ∧ cs.toList = A ++ B ++ C ∧ A.length = l.base + offp p (.arr 0 k.t) ∧ LR (CR E t) ys B ∧
      (∀ o, offp (p ++ [o]) (.arr 0 k.t) = offp p (.arr 0 k.t) + o * t.size) ∧ (∀ j, l.base ≤ j → j < cs.size → ¬ (fr.1 ≤ j ∧ j < fr.2)) ∧ l.rw = true ∧
      ∀ c w', LR (CR E t) z c → w'.heap[l.blk]? = some (.cells (A ++ c ++ C).toArray T fr) → BR l E k' w' := by
  match p with
  | [] =>
    simp only [Blk.els, Blk.notMap hro, Option.map_eq_some_iff, Prod.mk.injEq] at h
    obtain ⟨l', h1, rfl, rfl⟩ := h
    have := AV.as_eq h1
    simp only [AV.mk.injEq, Ty.arr.injEq, true_and] at this
    obtain ⟨ht, hx⟩ := this
    subst ht
    cases hx
    simp only [Blk.wrEls, Option.map_eq_some_iff] at hw
    obtain ⟨z', hw, rfl⟩ := hw
    have := AV.as_eq hw
    simp only [AV.mk.injEq, heq_eq_eq, true_and] at this
    subst this
    have hb := hb.cells hr (Blk.notMap hro)
    obtain ⟨cs, T, fr, hh, hsz, ⟨front, cells, rest, e1, e2, e3⟩, hf⟩ := hb
    refine ⟨cs, T, fr, front, cells, rest, hh, e1, by simp [offp, e2], e3, fun o => by simp [offp], (hf hro).2, (hf hro).1, fun c w' hc hw' => ?_⟩
    have hl1 := LR.len (fun x c hx => CR.len k.t x c hx) _ _ e3
    have hl2 := LR.len (fun x c hx => CR.len k.t x c hx) _ _ hc
    rw [hz] at hl2
    refine BR.ofCells ?_ hr (Blk.notMap rfl)
    have hs : cs.size = (front ++ c ++ rest).length := by
      rw [← Array.length_toList, e1]; simp; omega
    refine ⟨_, T, fr, hw', ?_, ⟨front, c, rest, by simp, e2, hc⟩, fun _ => ⟨(hf hro).1, fun o h1 h2 => (hf hro).2 o h1 ?_⟩⟩
    · rw [hsz, hs]; simp
    · rw [hs]; simpa using h2
  | i :: p' =>
    simp only [Blk.els, Blk.notMap hro, Option.bind_eq_some_iff] at h
    obtain ⟨a, h1, h⟩ := h
    split at h
    · rename_i n u ys'
      simp only [Option.map_eq_some_iff, Prod.mk.injEq] at h
      obtain ⟨l', h2, rfl, rfl⟩ := h
      have := AV.as_eq h2
      simp only [AV.mk.injEq, Ty.arr.injEq, true_and] at this
      obtain ⟨ht, hx⟩ := this
      subst ht
      cases hx
      obtain ⟨cs, T, fr, A, B, C, q1, q2, q3, q4, q5⟩ := Blk.rd_ok (p := i :: p') (ps := rowIn k.one k.xs i ++ okp p' k.t) (a := ⟨.arr n u, ys'⟩) hb hr (by simp [Blk.rd, h1, Blk.notMap hro]) hp
      have q5' : subt p' k.t = some (.arr n u) := q5
      simp only [Blk.wrEls, q5', Option.map_eq_some_iff] at hw
      obtain ⟨⟨rs, k''⟩, hwr, rfl⟩ := hw
      have hrs : allP rs := by
        have hwr := hwr
        simp only [Blk.wr, hro, Option.map_eq_some_iff, Prod.mk.injEq] at hwr
        obtain ⟨_, -, rfl, -⟩ := hwr
        exact hp
      obtain ⟨cs', T', fr', A', B', C', r1, r2, r3, r4, -, r6, ⟨-, r7⟩, r8⟩ := Blk.wr_ok hb hr hwr hrs
      rw [q1] at r1
      cases r1
      obtain ⟨hlen, hlr⟩ := q4
      have hlB := LR.len (fun x c hx => CR.len u x c hx) _ _ hlr
      rw [hlen] at hlB
      have e0 : A ++ (B ++ C) = A' ++ (B' ++ C') := by rw [← List.append_assoc, ← List.append_assoc, ← q2, ← r2]
      obtain ⟨eA, e0⟩ := List.append_inj e0 (by rw [q3, r3])
      obtain ⟨eB, eC⟩ := List.append_inj e0 (by rw [hlB, r4]; rfl)
      subst eA eB eC
      refine ⟨cs, T, fr, A, B, C, q1, q2, q3, hlr, fun o => offp_snoc _ _ _ _ _ q5, r6, r7, fun c w' hc hw' => r8 c w' ⟨by rw [hz]; exact hlen, hc⟩ hw'⟩
    · cases h

include gd in
theorem copyE_ok {T : TypeId} {s x : Ref} {us ux : Value} {ty : TypeId} (H : HR E L w) (he : copyE D L T s x = some e) (hp : allP e.pre) (hs : VR E s us) (hx : VR E x ux) :
    ∃ v w', (Builtin.copy_ #[T, T] ty #[us, ux]).run P w = .ok v w' ∧ SR E e.v v ∧ HR E (updL L e.upd) w' ∧ Fr E w E w' := by
  simp only [copyE, Option.bind_eq_some_iff] at he
  obtain ⟨el, hsl, t, hT, ⟨ps, ys, fx⟩, hy, he⟩ := he
  obtain ⟨ie, hue, hie, hby⟩ := gd.slice hsl
  obtain ⟨ie', _, z, hie', _, hsz, hz0, hza, _⟩ := gd.info hT
  rw [hie] at hie'; cases hie'
  have hso : (sizeOf el).run P w = .ok ie.size w := by simp [sizeOf, typeInfo, hie]
  dsimp only at he
  split at he
  · cases he
    obtain ⟨a, cap, cs, rfl, hcs, hnone, hcell⟩ := elsE_ok H hy hp hx
    simp only [VR] at hs
    subst hs
    refine ⟨goInt 0, w, ?_, AR.mkInt (E := E) (by decide) (by decide), H, Fr.refl E w⟩
    have hf : (Builtin.firstCells ie.size 0 (.slice a ys.length cap)).run P w = .ok #[] w := by
      cases a with
      | none => simp [Builtin.firstCells]
      | some ad => exact run_firstCells_some (P := P) w ie.size 0 ad ys.length cap [] (by simp) (fun j v h => by simp at h)
    have h0 : Nat.min ys.length 0 = 0 := Nat.min_zero _
    simp [Builtin.copy_, run_underlying hue, hso, Builtin.lenOf, hf]
  · rename_i b u p o n
    simp only [Option.bind_eq_some_iff] at he
    obtain ⟨k, hk, ⟨qs, l⟩, hl, he⟩ := he
    dsimp only at he
    split at he
    · rename_i hro hku
      simp only [decide_eq_true_eq] at hku
      subst hku
      simp only [Option.map_eq_some_iff] at he
      obtain ⟨k', hk', rfl⟩ := he
      simp only [allP_append, allP] at hp
      obtain ⟨hp1, hp2, hp3⟩ := hp
      obtain ⟨a, cap', cs, rfl, hcs, hnone, hcell⟩ := elsE_ok H hy hp1 hx
      have hcl := LR.len (fun x c hx => CR.len t x c hx) _ _ hcs
      have hblk := H.blk b k hk
      generalize hn' : min ys.length n = n' at hk' ⊢
      have hmin : Nat.min ys.length n = n' := hn'
      have hf : (Builtin.firstCells ie.size n' (.slice a ys.length cap')).run P w = .ok (cs.take (n' * ie.size)).toArray w := by
        cases a with
        | none =>
          have h1 := hnone rfl
          have : cs = [] := List.eq_nil_of_length_eq_zero (by rw [hcl, h1]; simp)
          rw [this]; simp [Builtin.firstCells]
        | some ax =>
          refine run_firstCells_some (P := P) w ie.size n' ax ys.length cap' _ ?_ (fun j v h => hcell ax rfl j v ?_)
          · rw [List.length_take, hcl, hsz]
            have : n' * t.size ≤ ys.length * t.size := Nat.mul_le_mul_right _ (by omega)
            omega
          · rw [List.getElem?_take] at h
            split at h
            · exact h
            · cases h
      have hty : (ys.take n).length = n' := by rw [List.length_take]; omega
      have hzl : (splice l o (ys.take n)).length = l.length := by
        simp only [splice, List.length_append, List.length_take, List.length_drop]; omega
      simp only [VR] at hs
      rcases hs with ⟨hst, rfl, rfl, rfl⟩ | ⟨hst, cap, ad, rfl, hcap, hcb, hor⟩
      · have hxs : k.xs = [] := by
          unfold BR at hblk; rw [hst] at hblk; exact hblk
        have hn0 : n' = 0 := by omega
        subst hn0
        refine ⟨goInt 0, w, ?_, AR.mkInt (E := E) (by decide) (by decide), H.same hk ?_, Fr.refl E w⟩
        · have hf : (Builtin.firstCells ie.size 0 (.slice a ys.length cap')).run P w = .ok #[] w := by rw [hf]; simp
          have h0 : Nat.min ys.length 0 = 0 := Nat.min_zero _
          simp [Builtin.copy_, run_underlying hue, hso, Builtin.lenOf, hf]
        · simp only [Blk.els, Blk.notMap hro, Option.map_eq_some_iff, Prod.mk.injEq] at hl
          obtain ⟨l', h1, rfl, rfl⟩ := hl
          have := AV.as_eq h1
          simp only [AV.mk.injEq, Ty.arr.injEq, true_and] at this
          obtain ⟨ht, hx⟩ := this
          subst ht
          cases hx
          simp only [Blk.wrEls, Option.map_eq_some_iff] at hk'
          obtain ⟨z', hw, rfl⟩ := hk'
          have := AV.as_eq hw
          simp only [AV.mk.injEq, heq_eq_eq, true_and] at this
          subst this
          unfold BR
          rw [hst]
          exact List.eq_nil_of_length_eq_zero (by rw [hzl, hxs]; rfl)
      · obtain ⟨cs0, T0, fr, A, B, C, q1, q2, q3, q4, q5, q6, q7, q8⟩ := Blk.wrEls_ok hblk hst hl hp2 hk' hro hzl
        have hlB := LR.len (fun x c hx => CR.len t x c hx) _ _ q4
        obtain ⟨s1, s2⟩ := LR.split (fun x c hx => CR.len t x c hx) l B o q4 (by omega)
        obtain ⟨s3, s4⟩ := LR.split (fun x c hx => CR.len t x c hx) l B (o + n') q4 (by omega)
        obtain ⟨s5, _⟩ := LR.split (fun x c hx => CR.len t x c hx) ys cs n' hcs (by omega)
        have ht : ys.take n = ys.take n' := by
          rcases Nat.le_total n ys.length with h | h
          · have : n' = n := by omega
            rw [this]
          · have : n' = ys.length := by omega
            rw [this, List.take_of_length_le (Nat.le_refl _), List.take_of_length_le h]
        have hnew : LR (CR E t) (splice l o (ys.take n)) (B.take (o * t.size) ++ cs.take (n' * t.size) ++ B.drop ((o + n') * t.size)) := by
          unfold splice
          rw [hty, ht]
          exact LR.append _ _ _ _ (LR.append _ _ _ _ s1 s5) s4
        have hss : o * t.size + n' * t.size = (o + n') * t.size := (Nat.add_mul _ _ _).symm
        have hle : (o + n') * t.size ≤ B.length := by rw [hlB]; exact Nat.mul_le_mul_right _ (by omega)
        have hlc : (cs.take (n' * t.size)).length = n' * t.size := by
          rw [List.length_take, hcl]
          have : n' * t.size ≤ ys.length * t.size := Nat.mul_le_mul_right _ (by omega)
          omega
        have hstore : ∃ w', (storeCells ⟨(E b).blk, ad, none⟩ (cs.take (n' * t.size))).run P w = .ok () w' ∧ w'.heap[(E b).blk]? = some (.cells (A ++ (B.take (o * t.size) ++ cs.take (n' * t.size) ++ B.drop ((o + n') * t.size)) ++ C).toArray T0 fr) ∧
            (∀ j, j ≠ (E b).blk → w'.heap[j]? = w.heap[j]?) ∧ w'.heap.size = w.heap.size ∧ w'.os = w.os ∧ w'.tape = w.tape ∧ w'.output = w.output := by
          by_cases h0 : n' = 0
          · subst h0
            refine ⟨w, by simp [storeCells], ?_, fun _ _ => rfl, rfl, rfl, rfl, rfl⟩
            rw [q1]
            simp only [Nat.zero_mul, List.take_zero, List.append_nil, Nat.add_zero, List.take_append_drop]
            rw [← q2]
          · rcases hor with h1 | ⟨had, _⟩
            · omega
            · have hoff : ad = (A ++ B.take (o * t.size)).length := by
                rw [had, q5, List.length_append, q3, List.length_take]; omega
              have hbs : (E b).base ≤ ad := by rw [hoff, List.length_append, q3]; omega
              obtain ⟨w', r1, r2, r3, r4, r5, r6, r7⟩ := run_storeCells P (E b).blk ad T0 fr (cs.take (n' * t.size)) 0 w cs0 (A ++ B.take (o * t.size)) ((B.drop (o * t.size)).take (n' * t.size)) (B.drop ((o + n') * t.size) ++ C) q1
                (by
                  rw [q2]
                  conv => lhs; rw [← List.take_append_drop (o * t.size) B]
                  conv => lhs; rw [← List.take_append_drop (n' * t.size) (B.drop (o * t.size))]
                  rw [List.drop_drop, hss]
                  simp only [List.append_assoc])
                (by rw [hoff]; rfl) (by rw [hlc, List.length_take, List.length_drop]; omega)
                (fun v hv => CR.oneCell.go t _ _ s5 v hv) (fun j hj hj' => q6 j (by omega) hj')
              refine ⟨w', r1, ?_, r3, r4, r5, r6, r7⟩
              rw [r2]; simp only [List.append_assoc]
        obtain ⟨w', r1, r2, r3, r4, r5, r6, r7⟩ := hstore
        refine ⟨goInt n', w', ?_, AR.mkInt (E := E) ?_ ?_, HR.put H hk hst q7 (q8 _ w' hnew r2) r3, Fr.ofPut hst q7 r4 r3 r5 r6 r7⟩
        · rw [← hsz] at r1
          simp [Builtin.copy_, run_underlying hue, hso, Builtin.lenOf, hmin, hf, r1]
        · have : IntKind.i64.min = -9223372036854775808 := rfl
          omega
        · have : IntKind.i64.max = 9223372036854775807 := rfl
          simp only [big] at hcb; omega
    · cases he
  · cases he

end
end Go.SL
