/- A TYPED READING OF THE MODEL's VALUES AND AN EVALUATOR OF ITS CODE OVER IT: definitions alone. -/
import Derived.Calls
import Derived.Still
import Derived.WalkKit
namespace Go.Proofs.Ytfcibaiiobihnaa.Vc

/-- The types of the reading. -/
inductive Ty where
  | bool | int (k : IntKind) | str | list (t : Ty) | unit | pair (a b : Ty) | ref | clo
  deriving DecidableEq

/-- What a value of a type reads as. -/
@[reducible] def Ty.den : Ty → Type
  | .bool => Bool
  | .int _ => Int
  | .str => List UInt8
  | .list t => List t.den
  | .unit => Unit
  | .pair a b => a.den × b.den
  | .ref => Option (Nat × Nat)
  | .clo => Option (Nat × List (Nat × Nat))

/-- How many cells it takes. -/
@[go_sem] def Ty.cells : Ty → Nat
  | .unit => 0
  | .pair a b => a.cells + b.cells
  | .bool | .int _ | .str | .list _ | .ref | .clo => 1

@[go_sem] def Ty.zero : (t : Ty) → t.den
  | .bool => false
  | .int _ => (0 : Int)
  | .str => []
  | .list _ => []
  | .unit => ()
  | .pair a b => (a.zero, b.zero)
  | .ref => none
  | .clo => none

/-- A struct or an array. -/
@[go_sem] def Ty.isRow : Ty → Bool
  | .unit | .pair _ _ => true
  | .bool | .int _ | .str | .list _ | .ref | .clo => false

/-- It holds no reference. -/
@[go_sem] def Ty.pure : Ty → Bool
  | .ref | .clo => false
  | .list t => t.pure
  | .pair a b => a.pure && b.pure
  | .bool | .int _ | .str | .unit => true

/-- An element of a list, by an integer. -/
def nth (t : Ty) (l : List t.den) (i : Int) : t.den := l.getD i.toNat t.zero

/-- A byte of a string, by an integer. -/
def byte (l : List UInt8) (i : Int) : Int := ((l.getD i.toNat 0).toNat : Int)

/-- A value at an equal type. -/
def castD {t u : Ty} (h : t = u) (x : t.den) : u.den := h ▸ x
@[go_sem] theorem castD_rfl {t : Ty} (x : t.den) : castD (rfl : t = t) x = x := rfl

/-- The part of type u at cell o. -/
@[go_sem] def getAt (u : Ty) : (t : Ty) → t.den → Nat → Option u.den
  | t, x, 0 => if h : t = u then some (castD h x) else match t, x with
    | .pair a b, x => if 0 < a.cells then getAt u a x.1 0 else getAt u b x.2 0
    | _, _ => none
  | .pair a b, x, o + 1 => if o + 1 < a.cells then getAt u a x.1 (o + 1) else getAt u b x.2 (o + 1 - a.cells)
  | _, _, _ => none


@[go_sem] def setAt (u : Ty) (y : u.den) : (t : Ty) → t.den → Nat → Option t.den
  | t, x, 0 => if h : u = t then some (castD h y) else match t, x with
    | .pair a b, x => if 0 < a.cells then (setAt u y a x.1 0).map (fun z => (z, x.2)) else (setAt u y b x.2 0).map (fun z => (x.1, z))
    | _, _ => none
  | .pair a b, x, o + 1 => if o + 1 < a.cells then (setAt u y a x.1 (o + 1)).map (fun z => (z, x.2)) else (setAt u y b x.2 (o + 1 - a.cells)).map (fun z => (x.1, z))
  | _, _, _ => none

/-- The i-th field of a struct (an element of an array). -/
@[go_sem] def Ty.proj : (t : Ty) → t.den → Nat → Option (Σ u : Ty, u.den)
  | .pair a _, x, 0 => some ⟨a, x.1⟩
  | .pair _ b, x, i + 1 => b.proj x.2 i
  | _, _, _ => none

/-- Its offset. -/
@[go_sem] def Ty.offs : Ty → Nat → Option Nat
  | .pair _ _, 0 => some 0
  | .pair a b, i + 1 => (b.offs i).map fun o => a.cells + o
  | _, _ => none

/-- Its type. -/
@[go_sem] def Ty.fld : Ty → Nat → Option Ty
  | .pair a _, 0 => some a
  | .pair _ b, i + 1 => b.fld i
  | _, _ => none

/-- The value of a struct with a field set. -/
@[go_sem] def Ty.setPart (u : Ty) (y : u.den) : (t : Ty) → t.den → Nat → Option t.den
  | .pair a b, x, 0 => if h : u = a then some (castD h y, x.2) else none
  | .pair a b, x, i + 1 => (Ty.setPart u y b x.2 i).map fun z => (x.1, z)
  | _, _, _ => none

/-- Abstract values: nothing known; a nil slice; a value; a pointer to cells that never change; several results; a value if a test was true. -/
inductive DV where
  | any
  | nilS
  | val (t : Ty) (x : t.den)
  | at (t : Ty) (x : t.den)
  | tup (l : List ((Σ t : Ty, t.den) × Option Nat))
  | cond (p : Bool) (d : DV)
  | flag (p q : Prop)
  | own (k n : Nat)
  | elt (k n c : Nat) (i : Int) (o : Nat)

abbrev Slot := DV × Option Nat

/-- Abstract objects: a variable's cells (and which of them hold a slice that may be appended to); the right to append to a slice of n elements of c cells of type e each. -/
inductive Blk where
  | cells (t : Ty) (x : t.den) (toks : List (Nat × Nat))
  | grow (e : TypeId) (c : Nat) (n : Nat)
  | row (e : TypeId) (t : Ty) (l : List t.den) (n : Nat)
  | dead

/-- A state: what the slots hold, the objects, the first id that is free, how many slots there are. -/
structure St where
  env : List (Nat × Slot)
  H : List (Nat × Blk)
  nb : Nat
  N : Nat
  np : Nat := 0

@[go_sem] def lk : List (Nat × Slot) → Nat → Slot
  | [], _ => (.any, none)
  | (k, s) :: r, t => if k = t then s else lk r t

@[go_sem] def getH : List (Nat × Blk) → Nat → Option Blk
  | [], _ => none
  | (k, s) :: r, t => if k = t then some s else getH r t

/-- What the evaluator knows of a type of the program: its reading; of a slice: its elements' type and their bytes. -/
structure TI where
  ty : Ty
  elem : TypeId := 0
  bytes : Nat := 0
  arr : Bool := false

abbrev Types := List (Nat × TI)

@[go_sem] def tyOf : Types → TypeId → Option TI
  | [], _ => none
  | (k, s) :: r, t => if k = t then some s else tyOf r t

/-- How a parameter comes in: a value; a slice with the right to append; a pointer to a variable (with rights at some offsets). -/
inductive PK where
  | v | own | p (t : Ty) (os : List Nat)

/-- What a call gives: conditions, results, the callee's objects afterwards (those that were handed over, in their order, then new ones). -/
structure Ret where
  side : List Prop
  ret : List Slot
  H : List Blk

structure Sig where
  ps : List PK
  C : List Slot → List Blk → Option Ret

abbrev Ctx := Nat → Option Sig

structure Eff where
  side : List Prop
  slot : Slot
  upd : List (Nat × Blk)
  rds : List Nat

@[go_sem] def purE (side : List Prop) (d : DV) : Option Eff := some ⟨side, (d, none), [], []⟩

@[go_sem] def optE : Option (List Prop × DV) → Option Eff
  | some (p, d) => some ⟨p, (d, none), [], []⟩
  | none => none

@[go_sem] def constDV : Value → DV
  | .bool b => .val .bool b
  | .int k n => .val (.int k) n
  | .string s => .val .str s.data.toList
  | .slice none 0 0 => .nilS
  | .pointer none => .val .ref none
  | .nilFunc => .val .clo none
  | _ => .any

@[go_sem] def opd (env : List (Nat × Slot)) : Operand → Slot
  | .tmp t => lk env t
  | .const v => (constDV v, none)
  | .func f => (.val .clo (some (f, [])), none)
  | .global _ => (.any, none)

/-- A nil slice at its type. -/
@[go_sem] def fixNil : Option TI → Slot → Slot
  | some ⟨.list t, _, _, _⟩, (.nilS, _) => (.val (.list t) [], none)
  | _, s => s

@[go_sem] def inI64 (n : Int) : Prop := -9223372036854775808 ≤ n ∧ n ≤ 9223372036854775807

@[go_sem] def intRes : IntKind → Int → List Prop × DV
  | .i64, n => ([-9223372036854775808 ≤ n ∧ n ≤ 9223372036854775807], .val (.int .i64) n)
  | k, n => ([], .val (.int k) (k.wrap n))

/-- Lists of conditions and of objects, one after the other. -/
@[go_sem] def app {α : Type} : List α → List α → List α
  | [], m => m
  | x :: l, m => x :: app l m

/-- Equality of read values. -/
@[go_sem] def eqDen : (t : Ty) → t.den → t.den → Option Bool
  | .bool, a, b => some (a == b)
  | .int _, a, b => some (decide ((a : Int) = b))
  | .str, a, b => some (decide ((a : List UInt8) = b))
  | .unit, _, _ => some true
  | .pair s t, a, b => eqAnd (eqDen s a.1 b.1) (eqDen t a.2 b.2)
  | _, _, _ => none
where
  eqAnd : Option Bool → Option Bool → Option Bool
    | some x, some y => some (x && y)
    | _, _ => none
attribute [go_sem] eqDen.eqAnd

@[go_sem] def binInt (k : IntKind) (a b : Int) : BinOp → Option (List Prop × DV)
  | .add => some (intRes k (a + b))
  | .sub => some (intRes k (a - b))
  | .mul => some (intRes k (a * b))
  | .eql => some ([], .val .bool (decide (a = b)))
  | .neq => some ([], .val .bool (!decide (a = b)))
  | .lss => some ([], .val .bool (decide (a < b)))
  | .leq => some ([], .val .bool (decide (a ≤ b)))
  | .gtr => some ([], .val .bool (decide (b < a)))
  | .geq => some ([], .val .bool (decide (b ≤ a)))
  | .quo => some ([b ≠ 0], .val (.int k) (k.wrap (Int.tdiv a b)))
  | .rem => some ([b ≠ 0], .val (.int k) (Int.tmod a b))
  | _ => none

@[go_sem] def binStr (a b : List UInt8) : BinOp → Option (List Prop × DV)
  | .add => some ([((a ++ b).length : Int) ≤ 9223372036854775807], .val .str (a ++ b))
  | .eql => some ([], .val .bool (decide (a = b)))
  | .neq => some ([], .val .bool (!decide (a = b)))
  | .lss => some ([], .val .bool (Op.bytesLess a b))
  | .leq => some ([], .val .bool (Op.bytesLess a b || decide (a = b)))
  | .gtr => some ([], .val .bool (!(Op.bytesLess a b || decide (a = b))))
  | .geq => some ([], .val .bool (!Op.bytesLess a b))
  | _ => none

@[go_sem] def binEq : BinOp → Option Bool → Option (List Prop × DV)
  | .eql, some r => some ([], .val .bool r)
  | .neq, some r => some ([], .val .bool (!r))
  | _, _ => none

@[go_sem] def binDV (op : BinOp) : Slot → Slot → Option (List Prop × DV)
  | (.val (.int k) a, _), (.val (.int k') b, _) => if k = k' then binInt k a b op else none
  | (.val .str a, _), (.val .str b, _) => binStr a b op
  | _, _ => none

/-- Comparisons of values of the type's own. -/
@[go_sem] def binSame (u : Ty) (b : Nat) (op : BinOp) (t t' : Ty) (x : t.den) (y : t'.den) : Option (List Prop × DV) :=
  if h : t' = t then (if t = u ∧ (t = .bool ∨ (t.isRow = true ∧ b = 1)) then binEq op (eqDen t x (castD h y)) else none) else none

@[go_sem] def binFlag {α : Type} (l : List α) : BinOp → Option (List Prop × DV)
  | .eql => some ([], .flag (l = []) True)
  | .neq => some ([], .flag True (l = []))
  | _ => none

@[go_sem] def binRow : Option TI → BinOp → Slot → Slot → Option (List Prop × DV)
  | some ⟨.list _, _, _, _⟩, op, (.val (.list _) l, _), (.nilS, _) => binFlag l op
  | some ⟨.list _, _, _, _⟩, op, (.nilS, _), (.val (.list _) l, _) => binFlag l op
  | some ⟨u, _, b, _⟩, op, (.val t x, _), (.val t' y, _) => binSame u b op t t' x y
  | _, _, _, _ => none

@[go_sem] def orElse : Option (List Prop × DV) → Option (List Prop × DV) → Option (List Prop × DV)
  | some r, _ => some r
  | none, r => r

@[go_sem] def unDV : UnOp → Slot → Option (List Prop × DV)
  | .not, (.val .bool b, _) => some ([], .val .bool (!b))
  | .neg, (.val (.int k) n, _) => some (intRes k (-(n : Int)))
  | _, _ => none

/-- The string of some bytes; the bytes of a string. -/
def bytesStr (l : List Int) : List UInt8 := l.map fun n => UInt8.ofNat n.toNat
def strBytes (s : List UInt8) : List Int := s.map fun b => (b.toNat : Int)

@[go_sem] def convDV : Option TI → Option TI → Slot → Option (List Prop × DV)
  | some _, some ⟨.int k, _, _, _⟩, (.val (.int _) n, _) => some ([], .val (.int k) (k.wrap n))
  | some _, some ⟨.str, _, _, _⟩, (.val .str s, _) => some ([], .val .str s)
  | _, _, _ => none

@[go_sem] def convB2 (l : List Int) : Option TI → Option (List Prop × DV)
  | some ⟨.int .u8, _, _, _⟩ => some ([], .val .str (bytesStr l))
  | _ => none

@[go_sem] def convB (T : Types) : Option TI → Option TI → Slot → Option (List Prop × DV)
  | some ⟨.list (.int .u8), e, _, _⟩, some ⟨.str, _, _, _⟩, (.val (.list (.int .u8)) l, _) => convB2 l (tyOf T e)
  | _, _, _ => none

/-- A slice expression on a list. -/
def cutL {α : Type} (l : List α) (lo hi : Int) : List α := (l.drop lo.toNat).take (hi.toNat - lo.toNat)

@[go_sem] def bound : Option Slot → Int → Option Int
  | none, d => some d
  | some (.val (.int _) n, _), _ => some n
  | _, _ => none

@[go_sem] def cutDV (t : Ty) (n : Nat) (f : Int → Int → t.den) : Option Int → Option Int → Option (List Prop × DV)
  | some a, some b => some ([0 ≤ a ∧ a ≤ b ∧ b ≤ (n : Int)], .val t (f a b))
  | _, _ => none

@[go_sem] def sliceDV : Option TI → Slot → Option Slot → Option Slot → Option (List Prop × DV)
  | some ⟨.str, _, _, _⟩, (.val .str l, _), lo, hi => cutDV .str (List.length l) (cutL l) (bound lo 0) (bound hi (List.length l))
  | some ⟨.list u, _, _, _⟩, (.val (.list t) l, _), lo, hi => if t = u then cutDV (.list t) (List.length l) (cutL l) (bound lo 0) (bound hi (List.length l)) else none
  | _, _, _, _ => none

@[go_sem] def nilPart (t : Ty) (x : t.den) (i : Nat) : Option Ty → Option t.den
  | some (.list u) => Ty.setPart (.list u) [] t x i
  | _ => none

/-- The parts of a literal. -/
@[go_sem] def buildParts (t : Ty) : Option t.den → List (Nat × Slot) → Option t.den
  | some x, [] => some x
  | some x, (i, (.val u y, _)) :: r => buildParts t (Ty.setPart u y t x i) r
  | some x, (i, (.nilS, _)) :: r => buildParts t (nilPart t x i (t.fld i)) r
  | _, _ => none

@[go_sem] def repL (t : Ty) : Nat → List t.den
  | 0 => []
  | n + 1 => t.zero :: repL t n

@[go_sem] def setL (t : Ty) (n : Nat) (l : List t.den) (i : Nat) (u : Ty) (y : u.den) : Option (List t.den) := if h : u = t ∧ i < n then some (l.set i (castD h.1 y)) else none

@[go_sem] def buildList (t : Ty) (n : Nat) : Option (List t.den) → List (Nat × Slot) → Option (List t.den)
  | some l, [] => some l
  | some l, (i, (.val u y, _)) :: r => buildList t n (setL t n l i u y) r
  | _, _ => none
attribute [go_sem] List.set_cons_zero List.set_cons_succ

@[go_sem] def capRefs : List Slot → Option (List (Nat × Nat))
  | [] => some []
  | (.val .ref (some p), _) :: r => (capRefs r).map (p :: ·)
  | _ => none

@[go_sem] def tokAt : List (Nat × Nat) → Nat → Option Nat
  | [], _ => none
  | (o, k) :: r, a => if o = a then some k else tokAt r a

@[go_sem] def tokOf : Option Nat → Nat → List (Nat × Nat)
  | some k, o => [(o, k)]
  | none, _ => []

/-- The rights that stay when the cells from o to o + n are written. -/
@[go_sem] def tokCut : List (Nat × Nat) → Nat → Nat → List (Nat × Nat)
  | [], _, _ => []
  | (q, k) :: r, o, n => if o ≤ q ∧ q < o + n then tokCut r o n else (q, k) :: tokCut r o n

/-! ### Calls -/
/-- Where a callee's object is the caller's: a variable (from an offset on), or a right to append. -/
inductive Whence where
  | box (id : Nat) (u : Ty) (x : u.den) (toks : List (Nat × Nat)) (o : Nat)
  | tok (id : Nat)

@[go_sem] def Whence.id : Whence → Nat
  | .box i _ _ _ _ => i
  | .tok k => k

@[go_sem] def memN : Nat → List Nat → Bool
  | _, [] => false
  | i, j :: r => if i = j then true else memN i r

@[go_sem] def wsIds : List Whence → List Nat
  | [] => []
  | w :: r => w.id :: wsIds r

/-- What has been handed over: arguments, objects, where they come from (all in the reverse order), how many objects. -/
structure Pass where
  args : List Slot
  H : List Blk
  ws : List Whence
  n : Nat

@[go_sem] def numToks : List Nat → Nat → List (Nat × Nat)
  | [], _ => []
  | q :: qs, n => (q, n) :: numToks qs (n + 1)

@[go_sem] def passTok2 (k : Nat) : Option Blk → Option Pass → Option Pass
  | some (.grow e c m), some a => if memN k (wsIds a.ws) = true then none else some ⟨a.args, .grow e c m :: a.H, .tok k :: a.ws, a.n + 1⟩
  | _, _ => none

@[go_sem] def passTok (H : List (Nat × Blk)) : Option Nat → Option Pass → Option Pass
  | some k, a => passTok2 k (getH H k) a
  | none, _ => none

@[go_sem] def passToks (H : List (Nat × Blk)) (toks : List (Nat × Nat)) (o : Nat) : List Nat → Option Pass → Option Pass
  | [], a => a
  | q :: qs, a => passToks H toks o qs (passTok H (tokAt toks (o + q)) a)

@[go_sem] def allLt (n : Nat) : List Nat → Bool
  | [] => true
  | q :: qs => decide (q < n) && allLt n qs

@[go_sem] def passBox (H : List (Nat × Blk)) (t : Ty) (os : List Nat) (i o : Nat) (u : Ty) (x : u.den) (toks : List (Nat × Nat)) (a : Pass) : Option t.den → Option Pass
  | some y => if (t.pure && allLt t.cells os && !memN i (wsIds a.ws)) = true then passToks H toks o os (some ⟨(.val .ref (some (a.n, 0)), none) :: a.args, .cells t y (numToks os (a.n + 1)) :: a.H, .box i u x toks o :: a.ws, a.n + 1⟩) else none
  | none => none

@[go_sem] def passPtr (H : List (Nat × Blk)) (t : Ty) (os : List Nat) (i o : Nat) (a : Pass) : Option Blk → Option Pass
  | some (.cells u x toks) => passBox H t os i o u x toks a (getAt t u x o)
  | _ => none

@[go_sem] def passOwn (t : Ty) (x : t.den) (k : Nat) (a : Pass) : Option Blk → Option Pass
  | some (.grow e c m) => if (t.pure && !memN k (wsIds a.ws)) = true then some ⟨(.val t x, some a.n) :: a.args, .grow e c m :: a.H, .tok k :: a.ws, a.n + 1⟩ else none
  | _ => none

@[go_sem] def passVal (t : Ty) (x : t.den) (a : Pass) : Option Pass :=
  if t.pure = true then some ⟨(.val t x, none) :: a.args, a.H, a.ws, a.n⟩ else none

@[go_sem] def passClo (f : FuncId) (a : Pass) : Option Pass := some ⟨(.val .clo (some (f, [])), none) :: a.args, a.H, a.ws, a.n⟩

@[go_sem] def passOne (H : List (Nat × Blk)) (a : Pass) : PK → Slot → Option Pass
  | .v, (.val .clo (some (f, [])), _) => passClo f a
  | .v, (.val t x, _) => passVal t x a
  | .own, (.val t x, some k) => passOwn t x k a (getH H k)
  | .p t os, (.val .ref (some (i, o)), _) => passPtr H t os i o a (getH H i)
  | _, _ => none

@[go_sem] def passArgs (H : List (Nat × Blk)) : List PK → List Slot → Option Pass → Option Pass
  | _, _, none => none
  | [], [], some a => some a
  | p :: ps, s :: ss, some a => passArgs H ps ss (passOne H a p s)
  | _, _, some _ => none

@[go_sem] def wsAt : List Whence → Nat → Option Whence
  | [], _ => none
  | w :: _, 0 => some w
  | _ :: r, n + 1 => wsAt r n

/-- The callee's id c stands for the caller's id base + c. -/
@[go_sem] def isNew (n : Nat) (c : Nat) : Option Whence → Bool
  | some (.box _ _ _ _ _) => false
  | _ => decide (c < n)

@[go_sem] def backRef (base n c o : Nat) : Option Whence → Slot
  | some (.box i _ _ _ o') => (.val .ref (some (i, o' + o)), none)
  | wh => if isNew n c wh = true then (.val .ref (some (base + c, o)), none) else (.any, none)

@[go_sem] def backTok (base n : Nat) (W : List Whence) : Option Nat → Option Nat
  | some c => if isNew n c (wsAt W c) = true then some (base + c) else none
  | none => none

@[go_sem] def backOwn (m : Nat) : Option Nat → Slot
  | some k => (.own k m, none)
  | none => (.any, none)

@[go_sem] def backSlot (base n : Nat) (W : List Whence) : Slot → Slot
  | (.own c m, _) => backOwn m (backTok base n W (some c))
  | (.val .ref (some (c, o)), _) => backRef base n c o (wsAt W c)
  | (.val t x, k) => if t.pure = true then (.val t x, backTok base n W k) else (.any, none)
  | _ => (.any, none)

@[go_sem] def backToks (base n : Nat) (W : List Whence) (o : Nat) : List (Nat × Nat) → List (Nat × Nat)
  | [] => []
  | (q, c) :: r => if isNew n c (wsAt W c) = true then (o + q, base + c) :: backToks base n W o r else backToks base n W o r

@[go_sem] def backCells (i o : Nat) (u t : Ty) (toks ts : List (Nat × Nat)) : Option u.den → Option (Nat × Blk)
  | some z => some (i, .cells u z (app ts (tokCut toks o t.cells)))
  | none => none

/-- An object that is new to the caller. -/
@[go_sem] def backNew (base n c : Nat) (W : List Whence) : Blk → Option (Nat × Blk)
  | .cells t y ts => if t.pure = true then some (base + c, .cells t y (backToks base n W 0 ts)) else none
  | .grow e m k => some (base + c, .grow e m k)
  | .row e t l n => if t.pure = true then some (base + c, .row e t l n) else none
  | .dead => some (base + c, .dead)

@[go_sem] def backBox (base n i o : Nat) (W : List Whence) (u : Ty) (x : u.den) (toks : List (Nat × Nat)) : Blk → Option (Nat × Blk)
  | .cells t y ts => backCells i o u t toks (backToks base n W o ts) (setAt t y u x o)
  | .dead => some (i, .dead)
  | .grow _ _ _ => none
  | .row _ _ _ _ => none

@[go_sem] def consO : Option (Nat × Blk) → Option (List (Nat × Blk)) → Option (List (Nat × Blk))
  | some q, some r => some (q :: r)
  | _, _ => none

@[go_sem] def backHeap (base n : Nat) (W : List Whence) : Nat → List Whence → List Blk → Option (List (Nat × Blk))
  | _, [], [] => some []
  | c, [], b :: L => consO (backNew base n c W b) (backHeap base n W (c + 1) [] L)
  | c, .box i u x toks o :: ws, b :: L => consO (backBox base n i o W u x toks b) (backHeap base n W (c + 1) ws L)
  | c, .tok k :: ws, b :: L => consO (some (k, .dead)) (consO (backNew base n c W b) (backHeap base n W (c + 1) ws L))
  | _, _ :: _, [] => none

@[go_sem] def unPair : List Slot → Option (List ((Σ t : Ty, t.den) × Option Nat))
  | [] => some []
  | (.val t x, k) :: r => (unPair r).map ((⟨t, x⟩, k) :: ·)
  | _ => none

@[go_sem] def retSlot : List Slot → Option Slot
  | [] => some (.tup [], none)
  | [s] => some s
  | s :: s' :: l => (unPair (s :: s' :: l)).map fun q => (.tup q, none)

@[go_sem] def callRes (side : List Prop) (rds : List Nat) : Option (List (Nat × Blk)) → Option Slot → Option Eff
  | some H, some s => some ⟨side, s, H, rds⟩
  | _, _ => none

@[go_sem] def backSlots (base n : Nat) (W : List Whence) : List Slot → List Slot
  | [] => []
  | s :: r => backSlot base n W s :: backSlots base n W r

@[go_sem] def lenB : List Blk → Nat
  | [] => 0
  | _ :: r => lenB r + 1

@[go_sem] def callBack (base : Nat) (W : List Whence) : Option Ret → Option Eff
  | some r => callRes r.side (wsIds W) (backHeap base (lenB r.H) W 0 W r.H) (retSlot (backSlots base (lenB r.H) W r.ret))
  | none => none

@[go_sem] def revL {α : Type} : List α → List α → List α
  | [], acc => acc
  | x :: l, acc => revL l (x :: acc)

@[go_sem] def callGo (C : List Slot → List Blk → Option Ret) (base : Nat) : Option Pass → Option Eff
  | some a => callBack base (revL a.ws []) (C (revL a.args []) (revL a.H []))
  | none => none

@[go_sem] def callSig (H : List (Nat × Blk)) (base : Nat) (args : List Slot) : Option Sig → Option Eff
  | some g => callGo g.C base (passArgs H g.ps args (some ⟨[], [], [], 0⟩))
  | none => none

/-! ### Operations -/
@[go_sem] def fixSlot (base : Nat) : Option TI → Slot → Option Eff
  | some ⟨.list u, e, _, true⟩, (.nilS, _) => some ⟨[], (.own base 0, none), [(base, .row e u [] 0)], []⟩
  | some ⟨.list u, e, _, false⟩, (.nilS, _) => some ⟨[], (.val (.list u) [], some base), [(base, .grow e u.cells 0)], []⟩
  | _, (.nilS, _) => none
  | _, s => some ⟨[], s, [], []⟩

@[go_sem] def allocE (base : Nat) : Option TI → Option Eff
  | some ⟨.list u, e, _, _⟩ => some ⟨[], (.val .ref (some (base, 0)), none), [(base, .cells (.list u) [] [(0, base + 1)]), (base + 1, .grow e u.cells 0)], []⟩
  | some ti => some ⟨[], (.val .ref (some (base, 0)), none), [(base, .cells ti.ty ti.ty.zero [])], []⟩
  | none => none

@[go_sem] def boxE (base : Nat) : Option TI → Slot → Option Eff
  | some ti, (.val t y, k) => if t = ti.ty then some ⟨[], (.val .ref (some (base, 0)), none), [(base, .cells t y (tokOf k 0))], []⟩ else none
  | _, _ => none

@[go_sem] def valE (t : Ty) : Option t.den → Option Eff
  | some x => some ⟨[], (.val t x, none), [], []⟩
  | none => none

@[go_sem] def buildE (sl : List (Nat × Slot)) : Option TI → Option Eff
  | some ti => if ti.ty.isRow = true then valE ti.ty (buildParts ti.ty (some ti.ty.zero) sl) else none
  | none => none

@[go_sem] def buildSlice2 (base e c n : Nat) (t : Ty) : Option (List t.den) → Option Eff
  | some l => if n ≤ 16777216 ∧ n * c ≤ 16777216 then some ⟨[], (.val (.list t) l, some base), [(base, .grow e c n)], []⟩ else none
  | none => none

@[go_sem] def buildRow2 (base e n : Nat) (t : Ty) : Option (List t.den) → Option Eff
  | some l => if t.pure = true ∧ n ≤ 16777216 ∧ n * t.cells ≤ 16777216 then some ⟨[], (.own base n, none), [(base, .row e t l n)], []⟩ else none
  | none => none

@[go_sem] def buildSliceE (base n : Nat) (sl : List (Nat × Slot)) : Option TI → Option Eff
  | some ⟨.list u, e, _, true⟩ => if n = 0 then buildRow2 base e n u (buildList u n (some (repL u n)) sl) else buildSlice2 base e u.cells n u (buildList u n (some (repL u n)) sl)
  | some ⟨.list u, e, _, false⟩ => buildSlice2 base e u.cells n u (buildList u n (some (repL u n)) sl)
  | _ => none

@[go_sem] def loadY (t : Ty) (k : Option Nat) (i : Nat) : Option t.den → Option Eff
  | some y => some ⟨[], (.val t y, k), [], [i]⟩
  | none => none

@[go_sem] def tokFor : Ty → Option Nat → Option Nat
  | .list _, k => k
  | _, _ => none

@[go_sem] def loadB (t : Ty) (i off : Nat) : Option Blk → Option Eff
  | some (.cells u x toks) => loadY t (tokFor t (tokAt toks off)) i (getAt t u x off)
  | _ => none

@[go_sem] def loadR2 (u : Ty) (k n m : Nat) : Option u.den → Option Eff
  | some y => some ⟨[n = m], (.val u y, none), [], [k]⟩
  | none => none

@[go_sem] def loadR (u : Ty) (k n c : Nat) (i : Int) (o : Nat) : Option Blk → Option Eff
  | some (.row _ t l m) => if c = t.cells then loadR2 u k n m (getAt u t (nth t l i) o) else none
  | _ => none

@[go_sem] def loadE (H : List (Nat × Blk)) : Option TI → Slot → Option Eff
  | some ti, (.elt k n c i o, _) => loadR ti.ty k n c i o (getH H k)
  | some ti, (.at u x, _) => if u = ti.ty then some ⟨[], (.val u x, none), [], []⟩ else none
  | some ti, (.val .ref (some (i, off)), _) => loadB ti.ty i off (getH H i)
  | _, _ => none

@[go_sem] def storeZ (u : Ty) (i : Nat) (toks : List (Nat × Nat)) : Option u.den → Option Eff
  | some z => some ⟨[], (.any, none), [(i, .cells u z toks)], [i]⟩
  | none => none

@[go_sem] def storeB (t : Ty) (y : t.den) (k : Option Nat) (i off : Nat) : Option Blk → Option Eff
  | some (.cells u x toks) => storeZ u i (app (tokOf k off) (tokCut toks off t.cells)) (setAt t y u x off)
  | _ => none

@[go_sem] def storeR2 (k n m : Nat) (e : TypeId) (t : Ty) (l : List t.den) (i : Int) : Option t.den → Option Eff
  | some z => some ⟨[n = m], (.any, none), [(k, .row e t (l.set i.toNat z) m)], [k]⟩
  | none => none

@[go_sem] def storeR (u : Ty) (y : u.den) (k n c : Nat) (i : Int) (o : Nat) : Option Blk → Option Eff
  | some (.row e t l m) => if c = t.cells then storeR2 k n m e t l i (setAt u y t (nth t l i) o) else none
  | _ => none

@[go_sem] def storeE (H : List (Nat × Blk)) : Option TI → Slot → Slot → Option Eff
  | some ti, (.elt k n c i o, _), (.val t y, _) => if t = ti.ty then storeR t y k n c i o (getH H k) else none
  | some ti, (.val .ref (some (i, off)), _), (.val t y, k) => if t = ti.ty then storeB t y k i off (getH H i) else none
  | _, _, _ => none

@[go_sem] def nilCheckE : Slot → Option Eff
  | (.val .ref (some p), _) => some ⟨[], (.val .ref (some p), none), [], []⟩
  | (.at t x, _) => some ⟨[], (.at t x, none), [], []⟩
  | (.elt k n c i o, _) => some ⟨[], (.elt k n c i o, none), [], []⟩
  | _ => none

@[go_sem] def cloE (f : FuncId) : Option (List (Nat × Nat)) → Option Eff
  | some l => some ⟨[], (.val .clo (some (f, l)), none), [], []⟩
  | none => none

@[go_sem] def cloT (f : FuncId) (l : Option (List (Nat × Nat))) : List Operand → Option Eff
  | [] => cloE f l
  | _ => none

@[go_sem] def atE (side : List Prop) : Option (Σ t : Ty, t.den) → Option Eff
  | some ⟨t, x⟩ => if 0 < t.cells then some ⟨side, (.at t x, none), [], []⟩ else none
  | none => none

@[go_sem] def refE (side : List Prop) (i off : Nat) : Option Nat → Option Ty → Option Eff
  | some o, some u => if 0 < u.cells then some ⟨side, (.val .ref (some (i, off + o)), none), [], []⟩ else none
  | _, _ => none

@[go_sem] def eltE (k n c : Nat) (i : Int) (o : Nat) : Option Nat → Option Ty → Option Eff
  | some q, some u => if 0 < u.cells then some ⟨[], (.elt k n c i (o + q), none), [], []⟩ else none
  | _, _ => none

@[go_sem] def fieldAddrE (f : Nat) : Option TI → Slot → Option Eff
  | some ⟨t, _, _, false⟩, (.elt k n c i o, _) => eltE k n c i o (t.offs f) (t.fld f)
  | some ⟨t, _, _, false⟩, (.at u y, _) => if u = t then atE [] (u.proj y f) else none
  | some ⟨t, _, _, false⟩, (.val .ref (some (i, off)), _) => refE [] i off (t.offs f) (t.fld f)
  | _, _ => none

@[go_sem] def sigE : Option (Σ t : Ty, t.den) → Option Eff
  | some ⟨t, x⟩ => some ⟨[], (.val t x, none), [], []⟩
  | none => none

@[go_sem] def fieldE (f : Nat) : Option TI → Slot → Option Eff
  | some ⟨t, _, _, false⟩, (.val u y, _) => if u = t then sigE (u.proj y f) else none
  | _, _ => none

@[go_sem] def indexAddrE : Option TI → Slot → Slot → Option Eff
  | some ⟨.list t', _, _, _⟩, (.own k n, _), (.val (.int _) i, _) => if 0 < t'.cells then some ⟨[0 ≤ i ∧ i < (n : Int)], (.elt k n t'.cells i 0, none), [], []⟩ else none
  | some ⟨.list t', _, _, _⟩, (.val (.list t) l, _), (.val (.int _) i, _) => if t = t' then some ⟨[0 ≤ i ∧ i < (List.length l : Int)], (.at t (nth t l i), none), [], []⟩ else none
  | some ⟨.pair a b, _, _, true⟩, (.val .ref (some (i, off)), _), (.val (.int _) n, _) => refE [(0 : Int) ≤ n] i off ((Ty.pair a b).offs (Int.toNat n)) ((Ty.pair a b).fld (Int.toNat n))
  | some ⟨.pair a b, _, _, true⟩, (.at u x, _), (.val (.int _) n, _) => if u = .pair a b then atE [(0 : Int) ≤ n] (u.proj x (Int.toNat n)) else none
  | _, _, _ => none

@[go_sem] def indexE : Option TI → Slot → Slot → Option Eff
  | some ⟨.str, _, _, _⟩, (.val .str l, _), (.val (.int _) i, _) => some ⟨[0 ≤ i ∧ i < (List.length l : Int)], (.val (.int .u8) (byte l i), none), [], []⟩
  | _, _, _ => none

@[go_sem] def tupAt : List ((Σ t : Ty, t.den) × Option Nat) → Nat → Option Eff
  | [], _ => none
  | (⟨t, x⟩, k) :: _, 0 => some ⟨[], (.val t x, k), [], []⟩
  | _ :: r, n + 1 => tupAt r n

@[go_sem] def extractE (i : Nat) : Slot → Option Eff
  | (.tup l, _) => tupAt l i
  | _ => none

@[go_sem] def lenE : Option TI → List Slot → Option Eff
  | some ⟨.str, _, _, _⟩, [(.val .str l, _)] => some ⟨[], (.val (.int .i64) (List.length l : Int), none), [], []⟩
  | some ⟨.list _, _, _, _⟩, [(.val (.list _) l, _)] => some ⟨[], (.val (.int .i64) (List.length l : Int), none), [], []⟩
  | some ⟨.list _, _, _, _⟩, [(.own _ n, _)] => some ⟨[], (.val (.int .i64) (n : Int), none), [], []⟩
  | _, _ => none

@[go_sem] def appendB (a : Ty) (l r : List a.den) (k e' by' : Nat) : Option Blk → Option Eff
  | some (.grow e c n) => if e = e' ∧ c = a.cells ∧ 0 < c ∧ 0 < by' then some ⟨[List.length l = n, (List.length l + List.length r) * by' ≤ 140737488355328], (.val (.list a) (l ++ r), some k), [(k, .grow e c (List.length (l ++ r)))], [k]⟩ else none
  | _ => none

@[go_sem] def appendRow (b : Ty) (r : List b.den) (k n e' by' : Nat) : Option Blk → Option Eff
  | some (.row e t l m) => if h : b = t then (if e = e' ∧ 0 < t.cells ∧ 0 < by' then some ⟨[n = m, (n + List.length r) * by' ≤ 140737488355328], (.own k (n + List.length r), none), [(k, .row e t (l ++ castD (t := .list b) (u := .list t) (by rw [h]) r) (n + List.length r))], [k]⟩ else none) else none
  | _ => none

@[go_sem] def appendE (H : List (Nat × Blk)) : Option TI → List Slot → Option Eff
  | some ⟨.list u, e, by', _⟩, [(.own k n, _), (.val (.list b) r, _)] => if b = u then appendRow b r k n e by' (getH H k) else none
  | some ⟨.list u, e, by', _⟩, [(.val (.list a) l, some k), (.val (.list b) r, _)] => if h : b = a ∧ a = u then appendB a l (castD (t := .list b) (u := .list a) (by rw [h.1]) r) k e by' (getH H k) else none
  | _, _ => none

@[go_sem] def minMax (mx : Bool) : List Slot → Option (List Prop × DV)
  | [(.val (.int k) a, _), (.val (.int k') b, _)] => if k = k' then some ([], .val (.int k) (if mx then max (a : Int) b else min (a : Int) b)) else none
  | _ => none

@[go_sem] def capSlots : List (Nat × Nat) → List Slot
  | [] => []
  | c :: r => (.val .ref (some c), none) :: capSlots r

@[go_sem] def callFn (Γ : Ctx) (H : List (Nat × Blk)) (base : Nat) (args : List Slot) : Slot → Option Eff
  | (.val .clo (some (f, caps)), _) => callSig H base (args ++ capSlots caps) (Γ f)
  | _ => none

@[go_sem] def argSlots (T : Types) (ρ : Operand → Slot) : List Operand → List TypeId → List Slot
  | x :: xs, t :: ts => fixNil (tyOf T t) (ρ x) :: argSlots T ρ xs ts
  | _, _ => []

@[go_sem] def opSlots (ρ : Operand → Slot) : List Operand → List Slot
  | [] => []
  | x :: xs => ρ x :: opSlots ρ xs

@[go_sem] def partSlots (ρ : Operand → Slot) : List (Nat × Operand) → List (Nat × Slot)
  | [] => []
  | (i, x) :: xs => (i, ρ x) :: partSlots ρ xs

@[go_sem] def optSlot (ρ : Operand → Slot) : Option Operand → Option Slot
  | some x => some (ρ x)
  | none => none

@[go_sem] def lenT (T : Types) (ss : List Slot) : List TypeId → Option Eff
  | t :: _ => lenE (tyOf T t) ss
  | [] => none

@[go_sem] def appendSB (l : List Int) (s : List UInt8) (k e' : Nat) : Option Blk → Option Eff
  | some (.grow e c n) => if e = e' ∧ c = 1 then some ⟨[List.length l = n, List.length l + List.length s ≤ 140737488355328], (.val (.list (.int .u8)) (l ++ strBytes s), some k), [(k, .grow e c (List.length (l ++ strBytes s)))], [k]⟩ else none
  | _ => none

@[go_sem] def appendS (H : List (Nat × Blk)) : Option TI → Option TI → List Slot → Option Eff
  | some ⟨.list (.int .u8), e, 1, _⟩, some ⟨.str, _, _, _⟩, [(.val (.list (.int .u8)) l, some k), (.val .str s, _)] => appendSB l s k e (getH H k)
  | _, _, _ => none

@[go_sem] def appT (T : Types) (H : List (Nat × Blk)) (ss : List Slot) : List TypeId → Option Eff
  | [t, u] => if t = u then appendE H (tyOf T t) ss else appendS H (tyOf T t) (tyOf T u) ss
  | _ => none

@[go_sem] def sameLen : List Operand → List TypeId → Bool
  | [], [] => true
  | _ :: xs, _ :: ts => sameLen xs ts
  | _, _ => false

@[go_sem] def callT (T : Types) (Γ : Ctx) (ρ : Operand → Slot) (base : Nat) (H : List (Nat × Blk)) (args : List Operand) (tys : List TypeId) (f : Slot) : Bool → Option Eff
  | true => callFn Γ H base (argSlots T ρ args tys) f
  | false => none

@[go_sem] def callE (T : Types) (Γ : Ctx) (ρ : Operand → Slot) (base : Nat) (H : List (Nat × Blk)) (args : Array Operand) (tys : Array TypeId) : Callee → Option Eff
  | .builtin .len => lenT T (opSlots ρ args.toList) tys.toList
  | .builtin .append => appT T H (opSlots ρ args.toList) tys.toList
  | .builtin .max => optE (minMax true (opSlots ρ args.toList))
  | .builtin .min => optE (minMax false (opSlots ρ args.toList))
  | .value f => callT T Γ ρ base H args.toList tys.toList (ρ f) (sameLen args.toList tys.toList)
  | _ => none

/-- One operation, its operands given. -/
@[go_sem] def plan (T : Types) (Γ : Ctx) (ty : TypeId) (ρ : Operand → Slot) (base : Nat) (H : List (Nat × Blk)) : Op → Option Eff
  | .move x | .assign x => fixSlot base (tyOf T ty) (ρ x)
  | .alloc e => allocE base (tyOf T e)
  | .box e x => boxE base (tyOf T e) (fixNil (tyOf T e) (ρ x))
  | .build t ps => buildE (partSlots ρ ps.toList) (tyOf T t)
  | .buildSlice t n ps => buildSliceE base n (partSlots ρ ps.toList) (tyOf T t)
  | .load t a => loadE H (tyOf T t) (ρ a)
  | .store t a x => storeE H (tyOf T t) (ρ a) (fixNil (tyOf T t) (ρ x))
  | .nilCheck x => nilCheckE (ρ x)
  | .binOp op t x y _ => optE (orElse (binDV op (ρ x) (ρ y)) (binRow (tyOf T t) op (ρ x) (ρ y)))
  | .unOp op _ x => optE (unDV op (ρ x))
  | .convert src dst x => optE (orElse (convDV (tyOf T src) (tyOf T dst) (ρ x)) (convB T (tyOf T src) (tyOf T dst) (ρ x)))
  | .makeFunc (.func f) first caps => cloT f (capRefs (opSlots ρ caps.toList)) first.toList
  | .slice t x lo hi none => optE (sliceDV (tyOf T t) (ρ x) (optSlot ρ lo) (optSlot ρ hi))
  | .fieldAddr t x f => fieldAddrE f (tyOf T t) (ρ x)
  | .field t x f => fieldE f (tyOf T t) (ρ x)
  | .indexAddr t x ix => indexAddrE (tyOf T t) (ρ x) (ρ ix)
  | .index t x ix => indexE (tyOf T t) (ρ x) (ρ ix)
  | .extract x i => extractE i (ρ x)
  | .call c => callE T Γ ρ base H c.args c.argTypes c.callee
  | _ => none

/-! ### Guards -/
@[go_sem] def strip : Slot → Slot
  | (.cond _ d, _) => (d, none)
  | s => s

@[go_sem] def need (G : Bool) : List Slot → List Prop
  | [] => []
  | (.cond p _, _) :: r => (G = true → p = true) :: need G r
  | _ :: r => need G r

@[go_sem] def guardSlot (b : Bool) : Slot → Option Bool
  | (.val .bool c, _) => some (c == b)
  | (.cond p (.val .bool c), _) => some (p && (c == b))
  | _ => none

@[go_sem] def dstOf : List Oper → Nat → Option Tmp
  | [], _ => none
  | o :: _, 0 => o.dst
  | _ :: r, n + 1 => dstOf r n

@[go_sem] def guardOf (env : List (Nat × Slot)) (b : Bool) : Option Tmp → Option Bool
  | some t => guardSlot b (lk env t)
  | none => none

@[go_sem] theorem cond_ff (x y : Bool) : cond x y false = (x && y) := by cases x <;> rfl
@[go_sem] theorem cond_tt (x y : Bool) : cond x true y = (x || y) := by cases x <;> rfl

@[go_sem] def pick2 (x : Bool) : Slot → Slot → Option Eff
  | (.val .bool y, _), (.val .bool z, _) => some ⟨[], (.val .bool (cond x y z), none), [], []⟩
  | (.cond p (.val .bool y), _), (.val .bool z, _) => some ⟨[x = true → p = true], (.val .bool (cond x y z), none), [], []⟩
  | (.val .bool y, _), (.cond p (.val .bool z), _) => some ⟨[x = false → p = true], (.val .bool (cond x y z), none), [], []⟩
  | (.cond q (.val .bool y), _), (.cond p (.val .bool z), _) => some ⟨[x = true → q = true, x = false → p = true], (.val .bool (cond x y z), none), [], []⟩
  | _, _ => none

@[go_sem] def pickE : Slot → Slot → Slot → Option Eff
  | (.val .bool x, _), a, b => pick2 x a b
  | _, _, _ => none

/-- The operands that an operation looks at. -/
@[go_sem] def opnds : Op → List Operand
  | .move x | .assign x | .box _ x | .load _ x | .nilCheck x | .unOp _ _ x | .convert _ _ x | .fieldAddr _ x _ | .field _ x _ | .extract x _ => [x]
  | .build _ ps | .buildSlice _ _ ps => parts ps.toList
  | .store _ a v | .binOp _ _ a v _ | .indexAddr _ a v | .index _ a v => [a, v]
  | .makeFunc _ _ caps => caps.toList
  | .slice _ x l h _ => x :: app (opt l) (opt h)
  | .call ⟨.value f, args, _⟩ => f :: args.toList
  | .call ⟨_, args, _⟩ => args.toList
  | _ => []
where
  parts : List (Nat × Operand) → List Operand
    | [] => []
    | (_, x) :: r => x :: parts r
  opt : Option Operand → List Operand
    | some x => [x]
    | none => []
attribute [go_sem] opnds.parts opnds.opt

@[go_sem] def withNeed (l : List Prop) : Option Eff → Option Eff
  | some e => some ⟨app l e.side, e.slot, e.upd, e.rds⟩
  | none => none

@[go_sem] def underAll (G : Bool) : List Prop → List Prop
  | [] => []
  | p :: r => (G = true → p) :: underAll G r

@[go_sem] def under (G : Bool) (l : List Prop) : Option Eff → Option Eff
  | some ⟨side, (d, _), [], rds⟩ => some ⟨app l (underAll G side), (.cond G d, none), [], rds⟩
  | some ⟨side, s, u :: us, rds⟩ => some ⟨(G = true) :: app l (underAll G side), s, u :: us, rds⟩
  | none => none

@[go_sem] def opsOf (env : List (Nat × Slot)) : List Operand → List Slot
  | [] => []
  | x :: r => opd env x :: opsOf env r

@[go_sem] def evGuarded (T : Types) (Γ : Ctx) (o : Oper) (s : St) : Option Bool → Op → Option Eff
  | some G, .pick c a b => under G (need G [opd s.env c]) (pickE (strip (opd s.env c)) (opd s.env a) (opd s.env b))
  | some G, op => under G (need G (opsOf s.env (opnds op))) (plan T Γ o.type (fun x => strip (opd s.env x)) s.nb s.H op)
  | none, _ => none

@[go_sem] def evPlain (T : Types) (Γ : Ctx) (o : Oper) (s : St) : Op → Option Eff
  | .pick c a b => pickE (opd s.env c) (opd s.env a) (opd s.env b)
  | op => withNeed (need true (opsOf s.env (opnds op))) (plan T Γ o.type (fun x => strip (opd s.env x)) s.nb s.H op)

/-- One operation of a region. -/
@[go_sem] def evOp (T : Types) (Γ : Ctx) (ops : List Oper) (o : Oper) (s : St) : Option Eff :=
  match o.guard with
  | none => evPlain T Γ o s o.op
  | some (j, b) => evGuarded T Γ o s (guardOf s.env b (dstOf ops j)) o.op

@[go_sem] def put : Option Tmp → Slot → List (Nat × Slot) → List (Nat × Slot)
  | some d, s, env => (d, s) :: env
  | none, _, env => env

/-- What has been reckoned: the state, the conditions, what each operation did (the last one first). -/
structure Acc where
  s : St
  side : List Prop
  es : List Eff

@[go_sem] def dstOk (N : Nat) : Option Tmp → Bool
  | some d => decide (d < N)
  | none => true

@[go_sem] def idsLt (n : Nat) : List (Nat × Blk) → Bool
  | [] => true
  | (i, _) :: r => decide (i < n) && idsLt n r

@[go_sem] def evStep (o : Oper) (a : Acc) : Option Eff → Option Acc
  | some e => if (dstOk a.s.N o.dst && idsLt (a.s.nb + 16) e.upd) = true then some ⟨⟨put o.dst e.slot a.s.env, app e.upd a.s.H, a.s.nb + 16, a.s.N, a.s.np⟩, app a.side e.side, e :: a.es⟩ else none
  | none => none

@[go_sem] def evOps (T : Types) (Γ : Ctx) (ops : List Oper) : List Oper → Option Acc → Option Acc
  | [], a => a
  | o :: r, some a => evOps T Γ ops r (evStep o a (evOp T Γ ops o a.s))
  | _ :: _, none => none

@[go_sem] def touches : List (Nat × Blk) → List Nat → Bool
  | [], _ => false
  | (i, _) :: r, l => l.contains i || touches r l

@[go_sem] def idsOf : List (Nat × Blk) → List Nat
  | [] => []
  | (i, _) :: r => i :: idsOf r

/-- Two operations do not touch the same object. -/
@[go_sem] def apartE (a b : Eff) : Bool := !touches a.upd (app b.rds (idsOf b.upd)) && !touches b.upd a.rds

/-- None of the ids from lo to lo + 15. -/
def noneIn (lo : Nat) : List (Nat × Blk) → Bool
  | [] => true
  | (i, _) :: r => (decide (i < lo) || decide (lo + 16 ≤ i)) && noneIn lo r

def freeFrom (ops : Array Oper) (bs : List Nat) (nb i : Nat) (o : Oper) (e : Eff) : List Oper → List Eff → Nat → Bool
  | p :: ps, f :: fs, j => ((bs.getD j 0).testBit i || (o.apart ops p && apartE e f && noneIn (nb + 16 * i) f.upd)) && freeFrom ops bs nb i o e ps fs (j + 1)
  | _, _, _ => true

def freeAll (ops : Array Oper) (bs : List Nat) (nb : Nat) : List Oper → List Eff → Nat → Bool
  | o :: os, e :: es, i => freeFrom ops bs nb i o e os es (i + 1) && freeAll ops bs nb os es (i + 1)
  | _, _, _ => true

def afterLt : List Oper → Nat → Bool
  | [], _ => true
  | o :: r, i => o.after.toList.all (fun e => !Region.binds .any e || decide (e.on < i)) && afterLt r (i + 1)

/-- Operations that no order sets in a row do not touch each other. -/
def drawnOk (ops : Array Oper) (nb : Nat) (es : List Eff) : Bool := afterLt ops.toList 0 && freeAll ops (Region.before ops).toList nb ops.toList es 0

@[go_sem] def evDrawn (ops : Array Oper) (nb : Nat) : Option Acc → Option Acc
  | some a => if drawnOk ops nb a.es.reverse then some a else none
  | none => none

@[go_sem] def evRegion (T : Types) (Γ : Ctx) (ops : Array Oper) (s : St) : Bool → Option Acc
  | true => evDrawn ops s.nb (evOps T Γ ops.toList ops.toList (some ⟨s, [], []⟩))
  | false => evOps T Γ ops.toList ops.toList (some ⟨s, [], []⟩)

inductive Ex where
  | normal | exit (id : Nat) | ret

/-! ### What is kept -/
structure Keep where
  slots : List Nat
  ids : List (Nat × Nat) := []

@[go_sem] def renId : List (Nat × Nat) → Nat → Option Nat
  | [], _ => none
  | (n, o) :: r, k => if o = k then some n else renId r k

@[go_sem] def renRef (m : List (Nat × Nat)) : Option (Nat × Nat) → Option (Nat × Nat)
  | some (i, o) => (renId m i).map fun j => (j, o)
  | none => none

@[go_sem] def renList (m : List (Nat × Nat)) : List (Nat × Nat) → Option (List (Nat × Nat))
  | [] => some []
  | (i, o) :: r => renCons (renId m i) o (renList m r)
where
  renCons : Option Nat → Nat → Option (List (Nat × Nat)) → Option (List (Nat × Nat))
    | some j, o, some r => some ((j, o) :: r)
    | _, _, _ => none
attribute [go_sem] renList.renCons

@[go_sem] def renTok (m : List (Nat × Nat)) : Option Nat → Option Nat
  | some k => renId m k
  | none => none

@[go_sem] def ownSlot (n : Nat) : Option Nat → Slot
  | some k => (.own k n, none)
  | none => (.any, none)

@[go_sem] def renSlot (m : List (Nat × Nat)) : Slot → Slot
  | (.own k n, _) => ownSlot n (renId m k)
  | (.val .ref none, _) => (.val .ref none, none)
  | (.val .ref (some p), _) => refSlot (renRef m (some p))
  | (.val .clo (some (f, l)), _) => cloSlot f (renList m l)
  | (.val t x, k) => if t.pure then (.val t x, renTok m k) else (.any, none)
  | (.at t x, _) => if t.pure then (.at t x, none) else (.any, none)
  | _ => (.any, none)
where
  refSlot : Option (Nat × Nat) → Slot
    | some p => (.val .ref (some p), none)
    | none => (.any, none)
  cloSlot (f : Nat) : Option (List (Nat × Nat)) → Slot
    | some l => (.val .clo (some (f, l)), none)
    | none => (.any, none)
attribute [go_sem] renSlot.refSlot renSlot.cloSlot

@[go_sem] def renToks (m : List (Nat × Nat)) : List (Nat × Nat) → List (Nat × Nat)
  | [] => []
  | (q, k) :: r => renTok1 q (renId m k) (renToks m r)
where
  renTok1 (q : Nat) : Option Nat → List (Nat × Nat) → List (Nat × Nat)
    | some j, r => (q, j) :: r
    | none, r => r
attribute [go_sem] renToks.renTok1

@[go_sem] def renBlk (m : List (Nat × Nat)) : Option Blk → Blk
  | some (.cells t x toks) => if t.pure then .cells t x (renToks m toks) else .dead
  | some (.grow e c n) => .grow e c n
  | some (.row e t l n) => if t.pure then .row e t l n else .dead
  | _ => .dead

@[go_sem] def keepEnv (m : List (Nat × Nat)) (env : List (Nat × Slot)) : List Nat → List (Nat × Slot)
  | [] => []
  | t :: r => (t, renSlot m (lk env t)) :: keepEnv m env r

@[go_sem] def keepH (m : List (Nat × Nat)) (H : List (Nat × Blk)) : List (Nat × Nat) → List (Nat × Blk)
  | [] => []
  | (n, o) :: r => (n, renBlk m (getH H o)) :: keepH m H r

/-- The first id behind those that are kept. -/
@[go_sem] def idsTop : List (Nat × Nat) → Nat
  | [] => 0
  | (n, _) :: r => max (n + 1) (idsTop r)

/-- The objects that the function was handed keep their ids. -/
@[go_sem] def hasId (n o : Nat) : List (Nat × Nat) → Bool
  | [] => false
  | (n', o') :: r => decide (n' = n) || decide (o' = o) || hasId n o r

@[go_sem] def keepOk (np : Nat) : List (Nat × Nat) → Bool
  | [] => true
  | (n, o) :: r => (decide (np ≤ n) || decide (n = o)) && !hasId n o r && keepOk np r

@[go_sem] def keepIf (s : St) (k : Keep) : Bool → St
  | true => ⟨keepEnv k.ids s.env k.slots, keepH k.ids s.H k.ids, max s.np (idsTop k.ids), s.N, s.np⟩
  | false => ⟨[], [], s.nb, s.N, s.np⟩

@[go_sem] def St.keep (s : St) (k : Keep) : St := keepIf s k (keepOk s.np k.ids)

@[go_sem] def conj : List Prop → Prop
  | [] => True
  | [p] => p
  | p :: q :: r => p ∧ conj (q :: r)

@[go_sem] def evReg (Q : Ex → St → Prop) : Option Acc → Prop
  | some a => conj a.side ∧ Q .normal a.s
  | none => False

@[go_sem] def evCond (A B : Prop) : Slot → Prop
  | (.val .bool x, _) => (x = true → A) ∧ (x = false → B)
  | (.flag p q, _) => (p → A) ∧ (q → B)
  | _ => False

/-- The way on behind a piece of code. -/
@[go_sem] def qSeq (f : St → Prop) (Q : Ex → St → Prop) : Ex → St → Prop
  | .normal, s => f s
  | .exit j, s => Q (.exit j) s
  | .ret, s => Q .ret s

@[go_sem] def qBlock (id : Nat) (Q : Ex → St → Prop) : Ex → St → Prop
  | .normal, s => Q .normal s
  | .exit j, s => if j = id then Q .normal s else Q (.exit j) s
  | .ret, s => Q .ret s

/-- A loop's round: at its end what is kept stands as the round's beginning did, with a lower measure. -/
@[go_sem] def qLoop (I : St → Prop) (μ : St → Nat) (m : Nat) (Q : Ex → St → Prop) : Ex → St → Prop
  | .normal, s => ∃ k : Keep, I (s.keep k) ∧ μ (s.keep k) < m
  | .exit j, s => Q (.exit j) s
  | .ret, s => Q .ret s

/-- THE CONDITIONS under which a piece of code, begun in an abstract state, ends as Q asks. -/
def evC (T : Types) (Γ : Ctx) : Code → St → (Ex → St → Prop) → Prop
  | .skip, s, Q => Q .normal s
  | .label _, s, Q => Q .normal s
  | .region _ ops draw, s, Q => evReg Q (evRegion T Γ ops s draw)
  | .seq a b, s, Q => evC T Γ a s (qSeq (fun s' => evC T Γ b s' Q) Q)
  | .cond c a b, s, Q => evCond (evC T Γ a s Q) (evC T Γ b s Q) (opd s.env c)
  | .block id c, s, Q => evC T Γ c s (qBlock id Q)
  | .loop c, s, Q => ∃ (k : Keep) (I : St → Prop) (μ : St → Nat), I (s.keep k) ∧ ∀ s, I s → evC T Γ c s (qLoop I μ (μ s) Q)
  | .exit id, s, Q => Q (.exit id) s
  | .ret, s, Q => Q .ret s
  | _, _, _ => False

attribute [go_sem] Ty.list.injEq Ty.pair.injEq Ty.int.injEq

/-! ### The walk's steps -/
section
variable {T : Types} {Γ : Ctx} {s : St} {Q : Ex → St → Prop}
theorem ev_seq {a b : Code} (h : evC T Γ a s (qSeq (fun s' => evC T Γ b s' Q) Q)) : evC T Γ (.seq a b) s Q := h
theorem ev_block {id : Nat} {c : Code} (h : evC T Γ c s (qBlock id Q)) : evC T Γ (.block id c) s Q := h
theorem ev_skip (h : Q .normal s) : evC T Γ .skip s Q := h
theorem ev_exit {id : Nat} (h : Q (.exit id) s) : evC T Γ (.exit id) s Q := h
theorem ev_ret (h : Q .ret s) : evC T Γ .ret s Q := h
theorem ev_region {id : Nat} {ops : Array Oper} {a : Acc} (h : evOps T Γ ops.toList ops.toList (some ⟨s, [], []⟩) = some a) (hp : conj a.side) (hq : Q .normal a.s) : evC T Γ (.region id ops false) s Q := by
  unfold evC evRegion
  rw [h]
  exact ⟨hp, hq⟩
theorem ev_drawn {id : Nat} {ops : Array Oper} {a : Acc} (h : evOps T Γ ops.toList ops.toList (some ⟨s, [], []⟩) = some a) (hf : drawnOk ops s.nb a.es.reverse = true) (hp : conj a.side) (hq : Q .normal a.s) : evC T Γ (.region id ops true) s Q := by
  unfold evC evRegion
  rw [h]
  show evReg Q (if drawnOk ops s.nb a.es.reverse = true then some a else none)
  rw [if_pos hf]
  exact ⟨hp, hq⟩
theorem ev_cond {c : Operand} {a b : Code} {x : Bool} {k : Option Nat} (h : opd s.env c = (.val .bool x, k)) (ht : x = true → evC T Γ a s Q) (hf : x = false → evC T Γ b s Q) : evC T Γ (.cond c a b) s Q := by
  unfold evC
  rw [h]
  exact ⟨ht, hf⟩
theorem ev_loop {c : Code} (k : Keep) (I : St → Prop) (μ : St → Nat) (h0 : I (s.keep k)) (h : ∀ s, I s → evC T Γ c s (qLoop I μ (μ s) Q)) : evC T Γ (.loop c) s Q := ⟨k, I, μ, h0, h⟩
end

end Go.Proofs.Ytfcibaiiobihnaa.Vc
