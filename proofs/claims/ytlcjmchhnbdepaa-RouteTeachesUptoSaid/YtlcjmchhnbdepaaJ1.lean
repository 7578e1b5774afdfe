/- The machine, part 1. -/
import Derived.Calls
import Derived.KernelRfl
import Derived.WalkKit
import Derived.Lib.ConvBytes
import Derived.MapKept
section
/- The abstract machine, first part: abstract values, heaps, operations, and the interpreter. Over whatever program; nothing is proved here. -/
set_option linter.unusedVariables false
namespace Go.Proofs.Ytlcjmchhnbdepaa

/-- Values of the machine ('list', 'elem', 'acc': of the machine over it alone, see Am25: a slice that nobody writes to, with its cells; a pointer into one; a slice of one's own): a slice bears the size of an element, its length, a lower bound of its capacity, and whether that bound is the capacity. 'undef': not known. -/
inductive AV where
  | undef
  | bool (b : Bool)
  | int (k : IntKind) (n : Int)
  | str (s : List UInt8)
  | ptr (a : Option (Nat × Nat))
  | slice (a : Option (Nat × Nat)) (sz len cap : Nat) (exact : Bool)
  | map (r : Option Nat)
  | func (f : FuncId) (caps : List AV)
  | nilFunc
  | agg (cs : List AV)
  | tuple (vs : List AV)
  | list (sz len : Nat) (cs : List AV) (ex : Bool)
  | elem (cs : List AV)
  | acc (b o sz n : Nat) (w : Bool)

instance : Inhabited AV := ⟨.undef⟩

def AV.isCell : AV → Bool
  | .undef | .agg _ | .tuple _ => false
  | _ => true

def AV.cells? : AV → Option (List AV)
  | .agg cs => if cs.all AV.isCell then some cs else none
  | .undef | .tuple _ => none
  | v => some [v]

mutual
def AV.same : AV → AV → Bool
  | .bool a, .bool b => a == b
  | .int k a, .int k' b => k == k' && a == b
  | .str a, .str b => a == b
  | .ptr a, .ptr b => a == b
  | .slice a s l c e, .slice a' s' l' c' e' => a == a' && s == s' && l == l' && c == c' && e == e'
  | .map a, .map b => a == b
  | .func f cs, .func f' cs' => f == f' && AV.sameL cs cs'
  | .nilFunc, .nilFunc => true
  | .agg a, .agg b => AV.sameL a b
  | .tuple a, .tuple b => AV.sameL a b
  | _, _ => false
def AV.sameL : List AV → List AV → Bool
  | [], [] => true
  | a :: l, b :: r => AV.same a b && AV.sameL l r
  | _, _ => false
end

/-- A block: cells (what came in is only read; 'slack': there may be more cells than are known), or a map. -/
inductive Blk where
  | cells (c : List AV) (ro slack : Bool)
  | map (es : List (AV × AV))

structure Heap where
  get : Nat → Option Blk
  next : Nat

def Heap.put (M : Heap) (b : Nat) (x : Option Blk) : Heap := { M with get := fun i => if i = b then x else M.get i }
def Heap.push (M : Heap) (x : Blk) : Heap := { get := fun i => if i = M.next then some x else M.get i, next := M.next + 1 }
def Heap.hide (M : Heap) (base n : Nat) : Heap := { M with get := fun i => if base ≤ i ∧ i < base + n then none else M.get i }
def Heap.empty : Heap := { get := fun _ => .none, next := 0 }

def Heap.read (M : Heap) (b o n : Nat) : Option (List AV) :=
  match M.get b with
  | some (.cells c _ _) => if o + n ≤ c.length then some ((c.drop o).take n) else .none
  | _ => .none

def Heap.write (M : Heap) (b o : Nat) (new : List AV) : Option Heap :=
  match M.get b with
  | some (.cells c false sl) =>
    if o + new.length ≤ c.length then some (M.put b (some (.cells (c.take o ++ new ++ c.drop (o + new.length)) false sl))) else .none
  | _ => .none

inductive AX where
  | t (n : Nat)
  | c (v : AV)

abbrev Env := List AV

def AX.ev (e : Env) : AX → AV
  | .t n => e.getD n .undef
  | .c v => v

/-- Kinds of cells that are held against each other. -/
inductive Kd where
  | b | i | s
  deriving DecidableEq

inductive POp where
  | move (x : AX)
  | pick (c a b : AX)
  | build (zero : List AV) (parts : List (Nat × Nat × AX))
  | nilCheck (x : AX)
  | bin (op : BinOp) (x y : AX)
  | eqB (neg : Bool) (x y : AX)
  | eqS (neg : Bool) (ks : List Kd) (x y : AX)
  | eqP (neg : Bool) (x y : AX)
  | eqN (neg : Bool) (x y : AX)
  | un (op : UnOp) (x : AX)
  | cvInt (k : IntKind) (x : AX)
  | cvStr (x : AX)
  | mkFunc (f : FuncId) (caps : List AX)
  | sliceStr (x : AX) (lo hi : Option AX)
  | slice (sz : Nat) (x : AX) (lo hi mx : Option AX)
  | fieldAddr (off : Nat) (x : AX)
  | field (agg : Bool) (off n : Nat) (x : AX)
  | idxArr (n sz : Nat) (x i : AX)
  | idxSlice (sz : Nat) (x i : AX)
  | index (agg : Bool) (n sz : Nat) (x i : AX)
  | indexStr (x i : AX)
  | extract (x : AX) (i : Nat)
  | len (isStr : Bool) (x : AX)
  | cap (x : AX)
  | minmax (isMax : Bool) (xs : List AX)

inductive LOp where
  | load (agg : Bool) (n : Nat) (x : AX)
  | bytesStr (x : AX)
  | mapLen (x : AX)
  | lookup (kd : Kd) (ok : Bool) (zero : AV) (x k : AX)

inductive KOp where
  | alloc (zero : List AV)
  | box (x : AX)
  | buildSlice (sz len : Nat) (zero : List AV) (parts : List (Nat × AX))
  | makeSlice (sz bytes : Nat) (zero : List AV) (len cap : AX)
  | strBytes (x : AX)
  | makeMap

inductive NOp where
  | store (n : Nat) (a v : AX)
  | call (f : AX) (args : List AX)
  | append (sz bytes : Nat) (s x : AX)
  | appendZ (sz bytes : Nat) (zero : List AV) (s n : AX)
  | copy (sz : Nat) (d s : AX)
  | clear (sz : Nat) (zero : List AV) (x : AX)
  | mapUpdate (kd : Kd) (m k v : AX)
  | mapDelete (kd : Kd) (m k : AX)
  | cvBytes (x : AX)
  | fail

inductive AOp where
  | p (o : POp)
  | l (o : LOp)
  | k (o : KOp)
  | n (o : NOp)

structure AOper where
  dst : Option Nat
  op : AOp
  guard : Option (Nat × Bool)

/-- An operation of a region whose order is drawn: in the order in which the machine takes them. 'lo': how many of the loud ones are surely ahead. 'ix': which of the new blocks. -/
structure DOper where
  o : AOper
  lo : Nat
  ix : Nat

inductive ACode where
  | skip
  | reg (ops : List AOper)
  | dreg (nk : Nat) (ops : List DOper)
  | seq (a b : ACode)
  | cond (c : AX) (a b : ACode)
  | block (id : Nat) (c : ACode)
  | loop (keep : List Nat) (c : ACode)
  | exit (id : Nat)
  | ret
  | fail

inductive ARes where
  | tmp (t : Nat)
  | cell (t : Nat) (agg : Bool) (n : Nat)

structure AFunc where
  nargs : Nat
  ntmps : Nat
  code : ACode
  results : List ARes

/-! ### Pure operations -/

def aInts (op : BinOp) (k : IntKind) (x y : Int) : Option AV :=
  match op with
  | .add => some (.int k (k.wrap (x + y)))
  | .sub => some (.int k (k.wrap (x - y)))
  | .mul => some (.int k (k.wrap (x * y)))
  | .quo => if y = 0 then none else some (.int k (k.wrap (x.tdiv y)))
  | .rem => if y = 0 then none else some (.int k (x.tmod y))
  | .and => some (.int k (k.wrap (BitVec.ofInt k.bits x &&& BitVec.ofInt k.bits y).toNat))
  | .or => some (.int k (k.wrap (BitVec.ofInt k.bits x ||| BitVec.ofInt k.bits y).toNat))
  | .xor => some (.int k (k.wrap (BitVec.ofInt k.bits x ^^^ BitVec.ofInt k.bits y).toNat))
  | .andNot => some (.int k (k.wrap (BitVec.ofInt k.bits x &&& ~~~BitVec.ofInt k.bits y).toNat))
  | .eql => some (.bool (x == y))
  | .neq => some (.bool (x != y))
  | .lss => some (.bool (x < y))
  | .leq => some (.bool (x ≤ y))
  | .gtr => some (.bool (x > y))
  | .geq => some (.bool (x ≥ y))
  | .shl | .shr => none

def aStrs (op : BinOp) (x y : List UInt8) : Option AV :=
  match op with
  | .add => if x.length + y.length ≤ 4611686018427387904 then some (.str (x ++ y)) else none
  | .eql => some (.bool (x == y))
  | .neq => some (.bool !(x == y))
  | .lss => some (.bool (Op.bytesLess x y))
  | .leq => some (.bool (Op.bytesLess x y || x == y))
  | .gtr => some (.bool !(Op.bytesLess x y || x == y))
  | .geq => some (.bool !(Op.bytesLess x y))
  | _ => none

def aBin (op : BinOp) (x y : AV) : Option AV :=
  match x, y with
  | .int k a, .int k' b =>
    match op with
    | .shl => if b < 0 then none else some (.int k (k.wrap (a * 2 ^ (min b.toNat k.bits))))
    | .shr => if b < 0 then none else some (.int k (a.fdiv (2 ^ (min b.toNat k.bits))))
    | _ => if k = k' then aInts op k a b else none
  | .str a, .str b => aStrs op a b
  | _, _ => none

def aEqK (k : Kd) (x y : AV) : Option Bool :=
  match k, x, y with
  | .b, .bool a, .bool b => some (a == b)
  | .i, .int k a, .int k' b => if k = k' then some (a == b) else none
  | .s, .str a, .str b => some (a == b)
  | _, _, _ => none

def aEqKs : List Kd → List AV → List AV → Option Bool
  | [], [], [] => some true
  | k :: ks, a :: l, b :: r =>
    match aEqK k a b, aEqKs ks l r with
    | some x, some y => some (x && y)
    | _, _ => none
  | _, _, _ => none

def aEqP : AV → AV → Option Bool
  | .ptr .none, .ptr b => some b.isNone
  | .ptr (some _), .ptr .none => some false
  | .ptr (some a), .ptr (some b) => if a.1 = b.1 then some (a.2 == b.2) else none
  | _, _ => none

def aEqN : AV → AV → Option Bool
  | .slice .none _ _ _ _, .slice b _ _ _ _ => some b.isNone
  | .slice (some _) _ _ _ _, .slice .none _ _ _ _ => some false
  | _, _ => none

def aUn (op : UnOp) (x : AV) : Option AV :=
  match op, x with
  | .neg, .int k n => some (.int k (k.wrap (0 - n)))
  | .xor, .int k n => some (.int k (k.wrap (BitVec.ofInt k.bits (if k.signed then -1 else k.max) ^^^ BitVec.ofInt k.bits n).toNat))
  | .not, .bool b => some (.bool !b)
  | _, _ => none

/-- The parts laid into the zero value's cells. -/
def aFill : List AV → List (Nat × Nat × AV) → Option (List AV)
  | cs, [] => some cs
  | cs, (off, n, v) :: r =>
    match v.cells? with
    | some l => if l.length = n ∧ off + n ≤ cs.length then aFill (cs.take off ++ l ++ cs.drop (off + n)) r else none
    | none => none

/-- A bound of a slice expression. -/
def aBound (v : AV) (most : Nat) : Option Nat :=
  match v with
  | .int _ i => if 0 ≤ i ∧ i ≤ (most : Int) then some i.toNat else none
  | _ => none

def aBoundO (e : Env) (x : Option AX) (other most : Nat) : Option Nat :=
  match x with
  | some x => aBound (x.ev e) most
  | none => some other

def aShift (a : Option (Nat × Nat)) (n : Nat) : Option (Nat × Nat) := a.map fun p => (p.1, p.2 + n)

def aSliceStr (s : List UInt8) (e : Env) (lo hi : Option AX) : Option AV :=
  (aBoundO e hi s.length s.length).bind fun h => (aBoundO e lo 0 h).bind fun l => some (.str ((s.drop l).take (h - l)))

def aSlice (sz : Nat) (a : Option (Nat × Nat)) (sz' len cap : Nat) (ex : Bool) (e : Env) (lo hi mx : Option AX) : Option AV :=
  if a = none ∨ sz' = sz then
    match mx with
    | none => (aBoundO e hi len cap).bind fun h => (aBoundO e lo 0 h).bind fun l => some (.slice (aShift a (l * sz)) sz (h - l) (cap - l) ex)
    | some _ => (aBoundO e mx cap cap).bind fun m => match hi with
      | none => none
      | some _ => (aBoundO e hi len m).bind fun h => (aBoundO e lo 0 h).bind fun l => some (.slice (aShift a (l * sz)) sz (h - l) (m - l) true)
  else none

def aMinMax (isMax : Bool) : AV → AV → Option AV
  | .int k x, .int k' y => if k = k' then some (.int k (if isMax then (if y > x then y else x) else (if y < x then y else x))) else none
  | _, _ => none

def aFold (isMax : Bool) : AV → List AV → Option AV
  | x, [] => some x
  | x, y :: r => (aMinMax isMax x y).bind fun z => aFold isMax z r

def aPart (agg : Bool) (off n : Nat) (cs : List AV) : Option AV :=
  if agg then some (.agg ((cs.drop off).take n)) else cs[off]?

def aP (o : POp) (e : Env) : Option AV :=
  match o with
  | .move x => some (x.ev e)
  | .pick c a b => match c.ev e with
    | .bool true => some (a.ev e)
    | .bool false => some (b.ev e)
    | _ => none
  | .build zero parts => (aFill zero (parts.map fun p => (p.1, p.2.1, p.2.2.ev e))).map .agg
  | .nilCheck x => match x.ev e with
    | .ptr (some a) => some (.ptr (some a))
    | .func f cs => some (.func f cs)
    | _ => none
  | .bin op x y => aBin op (x.ev e) (y.ev e)
  | .eqB neg x y => (aEqK .b (x.ev e) (y.ev e)).map fun b => .bool (if neg then !b else b)
  | .eqS neg ks x y => match x.ev e, y.ev e with
    | .agg a, .agg b => (aEqKs ks a b).map fun b => .bool (if neg then !b else b)
    | _, _ => none
  | .eqP neg x y => (aEqP (x.ev e) (y.ev e)).map fun b => .bool (if neg then !b else b)
  | .eqN neg x y => (aEqN (x.ev e) (y.ev e)).map fun b => .bool (if neg then !b else b)
  | .un op x => aUn op (x.ev e)
  | .cvInt k x => match x.ev e with
    | .int _ n => some (.int k (k.wrap n))
    | _ => none
  | .cvStr x => match x.ev e with
    | .str s => some (.str s)
    | _ => none
  | .mkFunc f cs => some (.func f (cs.map (AX.ev e)))
  | .sliceStr x lo hi => match x.ev e with
    | .str s => aSliceStr s e lo hi
    | _ => none
  | .slice sz x lo hi mx => match x.ev e with
    | .slice a sz' len cap ex => aSlice sz a sz' len cap ex e lo hi mx
    | _ => none
  | .fieldAddr off x => match x.ev e with
    | .ptr (some a) => some (.ptr (some (a.1, a.2 + off)))
    | _ => none
  | .field agg off n x => match x.ev e with
    | .agg cs => aPart agg off n cs
    | _ => none
  | .idxArr n sz x i => match x.ev e, i.ev e with
    | .ptr (some a), .int _ j => if 0 ≤ j ∧ j < (n : Int) then some (.ptr (some (a.1, a.2 + j.toNat * sz))) else none
    | _, _ => none
  | .idxSlice sz x i => match x.ev e, i.ev e with
    | .slice (some a) sz' len cap ex, .int _ j => if 0 ≤ j ∧ j < (len : Int) ∧ sz' = sz then some (.ptr (some (a.1, a.2 + j.toNat * sz))) else none
    | _, _ => none
  | .index agg n sz x i => match x.ev e, i.ev e with
    | .agg cs, .int _ j => if 0 ≤ j ∧ j < (n : Int) then aPart agg (j.toNat * sz) sz cs else none
    | _, _ => none
  | .indexStr x i => match x.ev e, i.ev e with
    | .str s, .int _ j => if 0 ≤ j then (s[j.toNat]?).map fun b => .int .u8 b.toNat else none
    | _, _ => none
  | .extract x i => match x.ev e with
    | .tuple vs => vs[i]?
    | _ => none
  | .len isStr x => match isStr, x.ev e with
    | true, .str s => some (.int .i64 s.length)
    | false, .slice _ _ len _ _ => some (.int .i64 len)
    | _, _ => none
  | .cap x => match x.ev e with
    | .slice _ _ _ cap true => some (.int .i64 cap)
    | _ => none
  | .minmax isMax xs => match xs.map (AX.ev e) with
    | x :: r => aFold isMax x r
    | [] => none

/-! ### Operations that read -/

def toBytes : List AV → Option (List UInt8)
  | [] => some []
  | .int .u8 n :: r => (toBytes r).map (UInt8.ofNat n.toNat :: ·)
  | _ :: _ => none

def aLoad (agg : Bool) (n : Nat) (v : AV) (M : Heap) : Option AV :=
  match v with
  | .ptr (some (b, o)) => if agg then (M.read b o n).map .agg else match M.get b with
    | some (.cells c _ _) => c[o]?
    | _ => none
  | _ => none

def aSliceCells (v : AV) (n : Nat) (M : Heap) : Option (List AV) :=
  match v with
  | .slice .none _ _ _ _ => some []
  | .slice (some (b, o)) sz _ _ _ => M.read b o (n * sz)
  | _ => none

def aBytesStr (v : AV) (M : Heap) : Option AV :=
  match v with
  | .slice .none _ _ _ _ => some (.str [])
  | .slice (some (b, o)) 1 len _ _ => if len = 0 then some (.str []) else ((M.read b o len).bind toBytes).map .str
  | _ => none

/-- Where a key stands: 'none': the keys cannot be held against each other. -/
def aFind (kd : Kd) (k : AV) : List (AV × AV) → Nat → Option (Option (Nat × AV))
  | [], _ => some none
  | e :: r, i => match aEqK kd k e.1 with
    | some true => some (some (i, e.2))
    | some false => aFind kd k r (i + 1)
    | none => none

def aEntries (v : AV) (M : Heap) : Option (List (AV × AV)) :=
  match v with
  | .map .none => some []
  | .map (some r) => match M.get r with
    | some (.map es) => some es
    | _ => none
  | _ => none

def aLookup (kd : Kd) (ok : Bool) (zero v k : AV) (M : Heap) : Option AV :=
  (aEntries v M).bind fun es => (aFind kd k es 0).map fun r =>
    let p : AV × Bool := match r with
      | some (_, x) => (x, true)
      | none => (zero, false)
    if ok then .tuple [p.1, .bool p.2] else p.1

def aL (o : LOp) (e : Env) (M : Heap) : Option AV :=
  match o with
  | .load agg n x => aLoad agg n (x.ev e) M
  | .bytesStr x => aBytesStr (x.ev e) M
  | .mapLen x => (aEntries (x.ev e) M).map fun es => .int .i64 es.length
  | .lookup kd ok zero x k => aLookup kd ok zero (x.ev e) (k.ev e) M

/-! ### Operations that make a block -/

inductive Mk where
  | ptr
  | slice (sz len cap : Nat) (ex : Bool)
  | map

def Mk.val (k : Mk) (b : Nat) : AV :=
  match k with
  | .ptr => .ptr (some (b, 0))
  | .slice sz len cap ex => .slice (some (b, 0)) sz len cap ex
  | .map => .map (some b)

def reps (n : Nat) (zero : List AV) : List AV :=
  match n with
  | 0 => []
  | n + 1 => zero ++ reps n zero

def aMakeSlice (sz bytes : Nat) (zero : List AV) (l c : AV) : Option (Blk × Mk) :=
  match l, c with
  | .int _ l, .int _ c =>
    if 0 ≤ l ∧ l ≤ c ∧ c ≤ 4611686018427387904 ∧ bytes * c.toNat ≤ 281474976710656 then some (.cells (reps c.toNat zero) false false, .slice sz l.toNat c.toNat true) else none
  | _, _ => none

def aK (o : KOp) (e : Env) : Option (Blk × Mk) :=
  match o with
  | .alloc zero => some (.cells zero false false, .ptr)
  | .box x => (x.ev e).cells?.map fun cs => (.cells cs false false, .ptr)
  | .buildSlice sz len zero parts =>
    (aFill (reps len zero) (parts.map fun p => (p.1 * sz, sz, p.2.ev e))).map fun cs => (.cells cs false false, .slice sz len len true)
  | .makeSlice sz bytes zero l c => aMakeSlice sz bytes zero (l.ev e) (c.ev e)
  | .strBytes x => match x.ev e with
    | .str s => if s.length ≤ 70368744177664 then some (.cells (s.map fun b => .int .u8 b.toNat) false true, .slice 1 s.length s.length false) else none
    | _ => none
  | .makeMap => some (.map [], .map)

/-! ### Loud operations -/

def aStore (n : Nat) (a v : AV) (M : Heap) : Option (AV × Heap) :=
  match a, v.cells? with
  | .ptr (some (b, o)), some cs => if cs.length = n then (M.write b o cs).map fun M => (.tuple [], M) else none
  | _, _ => none

/-- append: within what is surely there, the same block; over a capacity that is known, a new one; else one that takes the old one's place. -/
def aAppend (sz bytes : Nat) (s : AV) (n : Nat) (new : List AV) (M : Heap) : Option (AV × Heap) :=
  match s with
  | .slice a sz' len cap ex =>
    if a ≠ none ∧ sz' ≠ sz then none
    else if len + n ≤ cap then
      match a with
      | none => if n = 0 then some (.slice none sz len cap ex, M) else none
      | some (b, o) => if n = 0 then some (.slice (some (b, o)) sz len cap ex, M)
        else (M.write b (o + len * sz) new).map fun M => (.slice (some (b, o)) sz (len + n) cap ex, M)
    else if (len + n) * bytes ≤ 70368744177664 ∧ len + n ≤ 70368744177664 then
      match a with
      | none => some (.slice (some (M.next, 0)) sz (len + n) (len + n) false, M.push (.cells new false true))
      | some (b, o) => (if ex = true ∧ len = 0 then some [] else M.read b o (len * sz)).bind fun old =>
        if ex then some (.slice (some (M.next, 0)) sz (len + n) (len + n) false, M.push (.cells (old ++ new) false true))
        else match M.get b with
          | some (.cells _ false _) => some (.slice (some (M.next, 0)) sz (len + n) (len + n) false, (M.put b none).push (.cells (old ++ new) false true))
          | _ => none
    else none
  | _ => none

def aElems (x : AV) (M : Heap) : Option (Nat × List AV) :=
  match x with
  | .slice .none _ len _ _ => some (len, [])
  | .slice (some (b, o)) sz len _ _ => if len = 0 then some (0, []) else (M.read b o (len * sz)).map fun cs => (len, cs)
  | .str s => some (s.length, s.map fun b => .int .u8 b.toNat)
  | _ => none

def aElemSize (x : AV) (sz : Nat) : Bool :=
  match x with
  | .slice .none _ len _ _ => len == 0
  | .slice (some _) sz' _ _ _ => sz' == sz
  | .str _ => sz == 1
  | _ => false

/-- How many elements there are; the first of them. -/
def aSize (x : AV) : Option Nat :=
  match x with
  | .slice _ _ len _ _ => some len
  | .str s => some s.length
  | _ => none
def aFew (x : AV) (k : Nat) (M : Heap) : Option (List AV) :=
  match x with
  | .slice .none _ _ _ _ => some []
  | .slice (some (b, o)) sz _ _ _ => if k = 0 then some [] else M.read b o (k * sz)
  | .str s => some ((s.map fun b => .int .u8 b.toNat).take k)
  | _ => none

/-- Cells are laid within a region, or right behind what is known of it. -/
def Heap.lay (M : Heap) (b o : Nat) (new : List AV) : Option Heap :=
  match M.get b with
  | some (.cells c false sl) =>
    if o + new.length ≤ c.length ∨ (sl = true ∧ o ≤ c.length) then some (M.put b (some (.cells (c.take o ++ new ++ c.drop (o + new.length)) false sl))) else .none
  | _ => .none

def aCopy (sz : Nat) (d s : AV) (M : Heap) : Option (AV × Heap) :=
  match d with
  | .slice a sz' len _ _ =>
    if (a = none ∨ sz' = sz) ∧ aElemSize s sz then
      (aSize s).bind fun m =>
        let n := min m len
        (aFew s n M).bind fun cs => match a with
        | none => some (.int .i64 n, M)
        | some (b, o) => if n = 0 then some (.int .i64 n, M) else (M.lay b o cs).map fun M => (.int .i64 n, M)
    else none
  | _ => none

def aClear (sz : Nat) (zero : List AV) (x : AV) (M : Heap) : Option (AV × Heap) :=
  match x with
  | .slice .none _ _ _ _ => some (.tuple [], M)
  | .slice (some (b, o)) sz' len _ _ => if sz' = sz then (if len = 0 then some (.tuple [], M) else (M.write b o (reps len zero)).map fun M => (.tuple [], M)) else none
  | _ => none

def aMapUpdate (kd : Kd) (m k v : AV) (M : Heap) : Option (AV × Heap) :=
  match m with
  | .map (some r) => match M.get r with
    | some (.map es) =>
      if v.isCell = false ∧ (v.cells?).isNone then none else
      (aFind kd k es 0).bind fun p => match p with
      | some (i, _) => some (.tuple [], M.put r (some (.map (es.set i (k, v)))))
      | none => if k.isCell then some (.tuple [], M.put r (some (.map (es ++ [(k, v)])))) else none
    | _ => none
  | _ => none

def aMapDelete (kd : Kd) (m k : AV) (M : Heap) : Option (AV × Heap) :=
  match m with
  | .map (some r) => match M.get r with
    | some (.map es) => (aFind kd k es 0).bind fun p => match p with
      | some (i, _) => some (.tuple [], M.put r (some (.map (es.eraseIdx i))))
      | none => some (.tuple [], M)
    | _ => none
  | _ => none

/-- '[]byte(..)' of a constant text: its row gets a mark that no cell bears. -/
def aCvBytes (x : AV) (M : Heap) : Option (AV × Heap) :=
  match x with
  | .slice (some (b, o)) sz len cap ex => if cap = 0 then none else match M.get b with
    | some (.cells c false _) => some (.slice (some (b, o)) sz len cap ex, M.put b (some (.cells c false true)))
    | _ => none
  | _ => none

abbrev ACalls := FuncId → List AV → Heap → Option (AV × Heap)

def aCall (C : ACalls) (f : AV) (args : List AV) (M : Heap) : Option (AV × Heap) :=
  match f with
  | .func g caps => C g (args ++ caps) M
  | _ => none

def aN (C : ACalls) (o : NOp) (e : Env) (M : Heap) : Option (AV × Heap) :=
  match o with
  | .store n a v => aStore n (a.ev e) (v.ev e) M
  | .call f args => aCall C (f.ev e) (args.map (AX.ev e)) M
  | .append sz bytes s x =>
    if aElemSize (x.ev e) sz then (aElems (x.ev e) M).bind fun p => aAppend sz bytes (s.ev e) p.1 p.2 M else none
  | .appendZ sz bytes zero s n => match n.ev e with
    | .int _ n => if 0 < n ∧ n ≤ 70368744177664 ∧ bytes * n.toNat ≤ 281474976710656 then aAppend sz bytes (s.ev e) n.toNat (reps n.toNat zero) M else none
    | _ => none
  | .copy sz d s => aCopy sz (d.ev e) (s.ev e) M
  | .clear sz zero x => aClear sz zero (x.ev e) M
  | .mapUpdate kd m k v => aMapUpdate kd (m.ev e) (k.ev e) (v.ev e) M
  | .mapDelete kd m k => aMapDelete kd (m.ev e) (k.ev e) M
  | .cvBytes x => aCvBytes (x.ev e) M
  | .fail => none

def aop (C : ACalls) (o : AOp) (e : Env) (M : Heap) : Option (AV × Heap) :=
  match o with
  | .p o => (aP o e).map fun v => (v, M)
  | .l o => (aL o e M).map fun v => (v, M)
  | .k o => (aK o e).map fun r => (r.2.val M.next, M.push r.1)
  | .n o => aN C o e M

/-! ### Regions, code, calls -/

def aput (d : Option Nat) (v : AV) (e : Env) : Env :=
  match d with
  | some d => e.set d v
  | none => e

/-- Is the operation wanted? 'none': not known. -/
def awanted (g : Option (Nat × Bool)) (e : Env) : Option Bool :=
  match g with
  | none => some true
  | some (t, want) => match e.getD t .undef with
    | .bool b => some (b == want)
    | .tuple _ => some false
    | _ => none

def aops (C : ACalls) : List AOper → Env → Heap → Option (Env × Heap)
  | [], e, M => some (e, M)
  | o :: r, e, M => match awanted o.guard e with
    | some true => (aop C o.op e M).bind fun p => aops C r (aput o.dst p.1 e) p.2
    | some false => aops C r (aput o.dst (.tuple []) e) M
    | none => none

def adops (C : ACalls) (base nk : Nat) : List DOper → Env → Heap → List Heap → Option (Env × Heap)
  | [], e, M, _ => some (e, M)
  | d :: r, e, M, hist => match awanted d.o.guard e with
    | some true => match d.o.op with
      | .p o => (aP o e).bind fun v => adops C base nk r (aput d.o.dst v e) M hist
      | .l o => (aL o e (M.hide base nk)).bind fun v =>
        if (hist.drop d.lo).all (fun H => match aL o e (H.hide base nk) with | some u => AV.same u v | none => false) then adops C base nk r (aput d.o.dst v e) M hist else none
      | .k o => (aK o e).bind fun p => adops C base nk r (aput d.o.dst (p.2.val (base + d.ix)) e) (M.put (base + d.ix) (some p.1)) hist
      | .n o => (aN C o e M).bind fun p => adops C base nk r (aput d.o.dst p.1 e) p.2 (hist ++ [M])
    | some false => adops C base nk r (aput d.o.dst (.tuple []) e) M (match d.o.op with | .n _ => hist ++ [M] | _ => hist)
    | none => none

inductive Ex where
  | normal
  | exit (id : Nat)
  | ret
  deriving DecidableEq

def keepOnly (keep : List Nat) : Nat → Env → Env
  | _, [] => []
  | i, v :: r => (if keep.contains i then v else .undef) :: keepOnly keep (i + 1) r

abbrev AOut := Option (Ex × Env × Heap)

def aloop (body : Env → Heap → AOut) (keep : List Nat) : Nat → Env → Heap → AOut
  | 0, _, _ => none
  | k + 1, e, M => match body (keepOnly keep 0 e) M with
    | some (.normal, e', M') => aloop body keep k e' M'
    | r => r

def aexec (C : ACalls) (K : Nat) : ACode → Env → Heap → AOut
  | .skip, e, M => some (.normal, e, M)
  | .reg ops, e, M => (aops C ops e M).map fun p => (.normal, p)
  | .dreg nk ops, e, M => (adops C M.next nk ops e { M with next := M.next + nk } []).map fun p => (.normal, p)
  | .seq a b, e, M => match aexec C K a e M with
    | some (.normal, e', M') => aexec C K b e' M'
    | r => r
  | .cond c a b, e, M => match c.ev e with
    | .bool true => aexec C K a e M
    | .bool false => aexec C K b e M
    | _ => none
  | .block id c, e, M => match aexec C K c e M with
    | some (.exit i, e', M') => if i = id then some (.normal, e', M') else some (.exit i, e', M')
    | r => r
  | .loop keep c, e, M => aloop (aexec C K c) keep K e M
  | .exit id, e, M => some (.exit id, e, M)
  | .ret, e, M => some (.ret, e, M)
  | .fail, _, _ => none

def aRes (r : ARes) (e : Env) (M : Heap) : Option AV :=
  match r with
  | .tmp t => match e.getD t .undef with
    | .undef => none
    | v => some v
  | .cell t agg n => aLoad agg n (e.getD t .undef) M

def aResL : List ARes → Env → Heap → Option (List AV)
  | [], _, _ => some []
  | r :: l, e, M => (aRes r e M).bind fun v => (aResL l e M).map (v :: ·)

def aResults (l : List ARes) (e : Env) (M : Heap) : Option AV :=
  (aResL l e M).map fun vs => match vs with
    | [v] => v
    | vs => .tuple vs

def abody (C : ACalls) (K : Nat) (f : AFunc) (args : List AV) (M : Heap) : Option (AV × Heap) :=
  if args.length = f.nargs ∧ f.nargs ≤ f.ntmps then
    match aexec C K f.code (args ++ List.replicate (f.ntmps - f.nargs) (.tuple [])) M with
    | some (.normal, e, M') => (aResults f.results e M').map fun v => (v, M')
    | some (.ret, e, M') => (aResults f.results e M').map fun v => (v, M')
    | _ => none
  else none

/-- Calls: a function that is known by a summary, or by its code. -/
def acall (G : FuncId → Option (List AV → Heap → Option (AV × Heap))) (T : FuncId → Option AFunc) (K : Nat) : Nat → ACalls
  | 0, _, _, _ => none
  | d + 1, f, args, M => match G f with
    | some g => g args M
    | none => match T f with
      | some af => abody (acall G T K d) K af args M
      | none => none

end Go.Proofs.Ytlcjmchhnbdepaa
end

section
/- The abstract machine, second part: what an abstract heap says of a world, and what a step may turn. -/
set_option linter.unusedVariables false
set_option linter.unusedSimpArgs false
namespace Go.Proofs.Ytlcjmchhnbdepaa

/-- Where a block lies: the model's block, its first cell, how many cells are its own. -/
structure Loc where
  j : Nat
  d : Nat
  N : Nat

abbrev Inj := Nat → Option Loc

mutual
def VR (ι : Inj) : AV → Value → Prop
  | .undef, _ => True
  | .bool b, v => v = .bool b
  | .int k n, v => v = .int k n
  | .str s, v => ∃ b : ByteArray, v = .string b ∧ b.data.toList = s
  | .ptr none, v => v = .pointer none
  | .ptr (some (b, o)), v => ∃ l, ι b = some l ∧ v = .pointer (some ⟨l.j, l.d + o, none⟩)
  | .slice none _ len cap ex, v => v = .slice none 0 0 ∧ len = 0 ∧ cap = 0 ∧ ex = true
  | .slice (some (b, o)) sz len cap ex, v => ∃ l a cap', ι b = some l ∧ v = .slice (some a) len cap' ∧ (cap' = 0 ∨ a.block = l.j) ∧ (cap' = 0 ∨ a.spot = none) ∧
      (cap' = 0 ∨ a.off = l.d + o) ∧ len ≤ cap ∧ cap ≤ cap' ∧ (ex = true → cap' = cap) ∧ o + cap' * sz ≤ l.N ∧ 0 < sz
  | .map none, v => v = .map none
  | .map (some r), v => ∃ l, ι r = some l ∧ v = .map (some l.j)
  | .func f caps, v => ∃ cs : Array Value, v = .func (.func f) #[] cs ∧ VRL ι caps cs.toList
  | .nilFunc, v => v = .nilFunc
  | .agg cs, v => ∃ vs : Array Value, v = .agg vs ∧ VRL ι cs vs.toList
  | .tuple cs, v => ∃ vs : Array Value, v = .tuple vs ∧ VRL ι cs vs.toList
  | .list .., _ => False
  | .elem .., _ => False
  | .acc .., _ => False
def VRL (ι : Inj) : List AV → List Value → Prop
  | [], [] => True
  | a :: l, v :: r => VR ι a v ∧ VRL ι l r
  | _, _ => False
end

theorem VR.undef (ι : Inj) (v : Value) : VR ι .undef v := by simp [VR]

def Inj.Le (ι ι' : Inj) : Prop := ∀ b l, ι b = some l → ι' b = some l

theorem Inj.Le.refl (ι : Inj) : ι.Le ι := fun _ _ h => h
theorem Inj.Le.trans {a b c : Inj} (h : a.Le b) (k : b.Le c) : a.Le c := fun _ _ e => k _ _ (h _ _ e)

mutual
theorem VR.mono {ι ι' : Inj} (h : ι.Le ι') : ∀ (a : AV) (v : Value), VR ι a v → VR ι' a v
  | .undef, _, _ => VR.undef _ _
  | .bool _, _, e => by simpa [VR] using e
  | .int _ _, _, e => by simpa [VR] using e
  | .str _, _, e => by simpa [VR] using e
  | .ptr none, _, e => by simpa [VR] using e
  | .ptr (some (b, o)), _, e => by
    simp only [VR] at e ⊢
    obtain ⟨l, h1, h2⟩ := e
    exact ⟨l, h _ _ h1, h2⟩
  | .slice none _ _ _ _, _, e => by simpa [VR] using e
  | .slice (some (b, o)) _ _ _ _, _, e => by
    simp only [VR] at e ⊢
    obtain ⟨l, a, c, h1, r⟩ := e
    exact ⟨l, a, c, h _ _ h1, r⟩
  | .map none, _, e => by simpa [VR] using e
  | .map (some r), _, e => by
    simp only [VR] at e ⊢
    obtain ⟨l, h1, h2⟩ := e
    exact ⟨l, h _ _ h1, h2⟩
  | .func f caps, _, e => by
    simp only [VR] at e ⊢
    obtain ⟨cs, h1, h2⟩ := e
    exact ⟨cs, h1, VRL.mono h _ _ h2⟩
  | .nilFunc, _, e => by simpa [VR] using e
  | .list .., _, e => by simp [VR] at e
  | .elem .., _, e => by simp [VR] at e
  | .acc .., _, e => by simp [VR] at e
  | .agg cs, _, e => by
    simp only [VR] at e ⊢
    obtain ⟨vs, h1, h2⟩ := e
    exact ⟨vs, h1, VRL.mono h _ _ h2⟩
  | .tuple cs, _, e => by
    simp only [VR] at e ⊢
    obtain ⟨vs, h1, h2⟩ := e
    exact ⟨vs, h1, VRL.mono h _ _ h2⟩
theorem VRL.mono {ι ι' : Inj} (h : ι.Le ι') : ∀ (l : List AV) (r : List Value), VRL ι l r → VRL ι' l r
  | [], [], _ => by simp [VRL]
  | a :: l, v :: r, e => by
    simp only [VRL] at e ⊢
    exact ⟨VR.mono h _ _ e.1, VRL.mono h _ _ e.2⟩
  | [], _ :: _, e => by simp [VRL] at e
  | _ :: _, [], e => by simp [VRL] at e
end

theorem VRL.length {ι : Inj} : ∀ {l : List AV} {r : List Value}, VRL ι l r → l.length = r.length
  | [], [], _ => rfl
  | _ :: l, _ :: r, e => by
    simp only [VRL] at e
    simp [VRL.length e.2]
  | [], _ :: _, e => by simp [VRL] at e
  | _ :: _, [], e => by simp [VRL] at e

theorem VRL.get {ι : Inj} : ∀ {l : List AV} {r : List Value}, VRL ι l r → ∀ (i : Nat) (a : AV), l[i]? = some a → ∃ v, r[i]? = some v ∧ VR ι a v
  | [], _, _, i, a, h => by simp at h
  | a :: l, v :: r, e, i, x, h => by
    simp only [VRL] at e
    cases i with
    | zero =>
      simp at h
      subst h
      exact ⟨v, by simp, e.1⟩
    | succ i => simpa using VRL.get e.2 i x (by simpa using h)
  | _ :: _, [], e, _, _, _ => by simp [VRL] at e

theorem VRL.of_get {ι : Inj} : ∀ {l : List AV} {r : List Value}, l.length = r.length → (∀ (i : Nat) (a : AV) (v : Value), l[i]? = some a → r[i]? = some v → VR ι a v) → VRL ι l r
  | [], [], _, _ => by simp [VRL]
  | a :: l, v :: r, hl, h => by
    simp only [VRL]
    exact ⟨h 0 a v (by simp) (by simp), VRL.of_get (by simpa using hl) fun i x y hx hy => h (i + 1) x y (by simpa using hx) (by simpa using hy)⟩
  | [], _ :: _, hl, _ => by simp at hl
  | _ :: _, [], hl, _ => by simp at hl

theorem VRL.append {ι : Inj} : ∀ {l l' : List AV} {r r' : List Value}, VRL ι l r → VRL ι l' r' → VRL ι (l ++ l') (r ++ r')
  | [], _, [], _, _, h => by simpa using h
  | a :: l, _, v :: r, _, e, h => by
    simp only [VRL, List.cons_append] at e ⊢
    exact ⟨e.1, VRL.append e.2 h⟩
  | [], _, _ :: _, _, e, _ => by simp [VRL] at e
  | _ :: _, _, [], _, e, _ => by simp [VRL] at e

theorem VRL.drop {ι : Inj} : ∀ {l : List AV} {r : List Value} (n : Nat), VRL ι l r → VRL ι (l.drop n) (r.drop n)
  | _, _, 0, e => by simpa using e
  | [], [], _ + 1, e => by simpa using e
  | _ :: l, _ :: r, n + 1, e => by
    simp only [VRL] at e
    simpa using VRL.drop n e.2
  | [], _ :: _, _ + 1, e => by simp [VRL] at e
  | _ :: _, [], _ + 1, e => by simp [VRL] at e

theorem VRL.take {ι : Inj} : ∀ {l : List AV} {r : List Value} (n : Nat), VRL ι l r → VRL ι (l.take n) (r.take n)
  | _, _, 0, e => by simp [VRL]
  | [], [], _ + 1, e => by simp [VRL]
  | _ :: l, _ :: r, n + 1, e => by
    simp only [VRL] at e
    simp only [List.take_succ_cons, VRL]
    exact ⟨e.1, VRL.take n e.2⟩
  | [], _ :: _, _ + 1, e => by simp [VRL] at e
  | _ :: _, [], _ + 1, e => by simp [VRL] at e

/-- Of lists, place by place. -/
theorem VRL.getD {ι : Inj} {l : List AV} {r : List Value} (h : VRL ι l r) (i : Nat) (d : Value) : VR ι (l.getD i .undef) (r.getD i d) := by
  rw [List.getD_eq_getElem?_getD, List.getD_eq_getElem?_getD]
  cases hi : l[i]? with
  | none => simp [VR]
  | some a =>
    obtain ⟨v, hv, hr⟩ := h.get i a hi
    simpa [hv] using hr

theorem VRL.set {ι : Inj} : ∀ {l : List AV} {r : List Value} (n : Nat) {a : AV} {v : Value}, VRL ι l r → VR ι a v → VRL ι (l.set n a) (r.set n v)
  | [], [], _, _, _, e, _ => by simp [VRL]
  | _ :: l, _ :: r, 0, _, _, e, h => by
    simp only [VRL, List.set_cons_zero] at e ⊢
    exact ⟨h, e.2⟩
  | _ :: l, _ :: r, n + 1, _, _, e, h => by
    simp only [VRL, List.set_cons_succ] at e ⊢
    exact ⟨e.1, VRL.set n e.2 h⟩
  | [], _ :: _, _, _, _, e, _ => by simp [VRL] at e
  | _ :: _, [], _, _, _, e, _ => by simp [VRL] at e

theorem VRL.keepOnly {ι : Inj} (keep : List Nat) : ∀ {l : List AV} {r : List Value} (i : Nat), VRL ι l r → VRL ι (keepOnly keep i l) r
  | [], [], _, e => by simp [Proofs.Ytlcjmchhnbdepaa.keepOnly, VRL]
  | a :: l, _ :: r, i, e => by
    simp only [VRL, Proofs.Ytlcjmchhnbdepaa.keepOnly] at e ⊢
    refine ⟨?_, VRL.keepOnly keep (i + 1) e.2⟩
    split
    · exact e.1
    · exact VR.undef _ _
  | [], _ :: _, _, e => by simp [VRL] at e
  | _ :: _, [], _, e => by simp [VRL] at e

theorem isCell_oneCell {ι : Inj} {a : AV} {v : Value} (h : a.isCell = true) (r : VR ι a v) : v.oneCell' = true := by
  cases a with
  | undef => simp [AV.isCell] at h
  | agg _ => simp [AV.isCell] at h
  | tuple _ => simp [AV.isCell] at h
  | bool b => simp only [VR] at r; subst r; rfl
  | int k n => simp only [VR] at r; subst r; rfl
  | str s => simp only [VR] at r; obtain ⟨b, rfl, _⟩ := r; rfl
  | ptr a =>
    cases a with
    | none => simp only [VR] at r; subst r; rfl
    | some p => simp only [VR] at r; obtain ⟨l, _, rfl⟩ := r; rfl
  | slice a sz len cap ex =>
    cases a with
    | none => simp only [VR] at r; obtain ⟨rfl, _⟩ := r; rfl
    | some p => simp only [VR] at r; obtain ⟨l, a, c, _, rfl, _⟩ := r; rfl
  | map r' =>
    cases r' with
    | none => simp only [VR] at r; subst r; rfl
    | some p => simp only [VR] at r; obtain ⟨l, _, rfl⟩ := r; rfl
  | func f cs => simp only [VR] at r; obtain ⟨vs, rfl, _⟩ := r; rfl
  | nilFunc => simp only [VR] at r; subst r; rfl
  | list => simp [VR] at r
  | elem => simp [VR] at r
  | acc => simp [VR] at r

theorem cells_one {v : Value} (h : v.oneCell' = true) : v.cells = #[v] := by
  cases v <;> simp_all [Value.cells, Value.oneCell']

/-- What is stored of a value: cell by cell. -/
theorem cells?_VR {ι : Inj} {a : AV} {v : Value} {cs : List AV} (h : a.cells? = some cs) (r : VR ι a v) :
    VRL ι cs v.cells.toList ∧ ∀ x, x ∈ cs → x.isCell = true := by
  cases a with
  | undef => simp [AV.cells?] at h
  | tuple _ => simp [AV.cells?] at h
  | agg l =>
    simp only [AV.cells?] at h
    split at h
    · rename_i hall
      obtain rfl := Option.some.inj h
      simp only [VR] at r
      obtain ⟨vs, rfl, hr⟩ := r
      exact ⟨by simpa [Value.cells] using hr, fun x hx => List.all_eq_true.1 hall x hx⟩
    · cases h
  | _ =>
    all_goals
      simp only [AV.cells?, Option.some.injEq] at h
      subst h
      have ho := isCell_oneCell (by rfl) r
      rw [cells_one ho]
      exact ⟨by simp only [VRL]; exact ⟨r, trivial⟩, fun x hx => by simp at hx; subst hx; rfl⟩

def Blk.own : Blk → Bool
  | .cells _ ro _ => !ro
  | .map _ => true

def ERL (ι : Inj) : List (AV × AV) → List MapEntry → Prop
  | [], [] => True
  | a :: l, e :: r => VR ι a.1 e.key ∧ VR ι a.2 e.val ∧ ERL ι l r
  | _, _ => False

theorem ERL.mono {ι ι' : Inj} (h : ι.Le ι') : ∀ {l : List (AV × AV)} {r : List MapEntry}, ERL ι l r → ERL ι' l r
  | [], [], _ => by simp [ERL]
  | _ :: l, _ :: r, e => by
    simp only [ERL] at e ⊢
    exact ⟨e.1.mono h, e.2.1.mono h, ERL.mono h e.2.2⟩
  | [], _ :: _, e => by simp [ERL] at e
  | _ :: _, [], e => by simp [ERL] at e

def BR (ι : Inj) : Blk → Loc → Obj → Prop
  | .cells c ro slack, l, o => ∃ (cs : Array Value) (elem : TypeId) (fz : Nat × Nat), o = .cells cs elem fz ∧ l.d + l.N ≤ cs.size ∧ c.length ≤ l.N ∧ (slack = false → c.length = l.N) ∧
      (∀ i a, c[i]? = some a → ∃ v, cs[l.d + i]? = some v ∧ a.isCell = true ∧ VR ι a v) ∧ (ro = false → (fz.1 = fz.2 ∨ cs.size ≤ fz.1) ∧ (slack = false → fz.1 = fz.2))
  | .map es, l, o => ∃ (es' : Array MapEntry) (clock : Nat), o = .map es' clock ∧ ERL ι es es'.toList

theorem BR.mono {ι ι' : Inj} (h : ι.Le ι') {x : Blk} {l : Loc} {o : Obj} (r : BR ι x l o) : BR ι' x l o := by
  cases x with
  | cells c ro slack =>
    obtain ⟨cs, elem, fz, h1, h2, h3, h4, h5, h6⟩ := r
    exact ⟨cs, elem, fz, h1, h2, h3, h4, fun i a hi => let ⟨v, a1, a2, a3⟩ := h5 i a hi; ⟨v, a1, a2, a3.mono h⟩, h6⟩
  | map es =>
    obtain ⟨es', clock, h1, h2⟩ := r
    exact ⟨es', clock, h1, h2.mono h⟩

/-- What an abstract heap says of a world. -/
structure R (ι : Inj) (M : Heap) (w : World) : Prop where
  blk : ∀ b x, M.get b = some x → ∃ l o, ι b = some l ∧ w.heap[l.j]? = some o ∧ BR ι x l o
  apart : ∀ b b' x x' l l', M.get b = some x → M.get b' = some x' → ι b = some l → ι b' = some l' → b ≠ b' → (x.own = true ∨ x'.own = true) → l.j ≠ l'.j
  fresh : ∀ b, M.next ≤ b → M.get b = none ∧ ι b = none

/-- What a step may turn. -/
structure Tr (ι : Inj) (M : Heap) (w : World) (ι' : Inj) (M' : Heap) (w' : World) : Prop where
  rel : R ι' M' w'
  agree : ∀ b, b < M.next → ι' b = ι b
  next : M.next ≤ M'.next
  dead : ∀ b, b < M.next → M.get b = none → M'.get b = none
  ro : ∀ b x, M'.get b = some x → x.own = false → M.get b = some x
  owned : ∀ b x l, M'.get b = some x → x.own = true → ι' b = some l → l.j < w.heap.size → ∃ b0 x0 l0, M.get b0 = some x0 ∧ x0.own = true ∧ ι b0 = some l0 ∧ l0.j = l.j
  keep : ∀ j, j < w.heap.size → (∀ b x l, M.get b = some x → x.own = true → ι b = some l → l.j ≠ j) → w'.heap[j]? = w.heap[j]?
  size : w.heap.size ≤ w'.heap.size
  os : w'.os = w.os
  tape : w'.tape = w.tape
  output : w'.output = w.output

theorem Tr.le {ι ι' : Inj} {M M' : Heap} {w w' : World} (r : R ι M w) (h : Tr ι M w ι' M' w') : ι.Le ι' := fun b l e => by
  rcases Nat.lt_or_ge b M.next with hb | hb
  · rw [h.agree b hb, e]
  · rw [(r.fresh b hb).2] at e
    cases e

theorem Tr.refl {ι : Inj} {M : Heap} {w : World} (r : R ι M w) : Tr ι M w ι M w :=
  ⟨r, fun _ _ => rfl, Nat.le_refl _, fun _ _ h => h, fun _ _ h _ => h, fun b x l h1 h2 h3 _ => ⟨b, x, l, h1, h2, h3, rfl⟩, fun _ _ _ => rfl, Nat.le_refl _, rfl, rfl, rfl⟩

theorem Tr.trans {ι ι1 ι2 : Inj} {M M1 M2 : Heap} {w w1 w2 : World} (h : Tr ι M w ι1 M1 w1) (k : Tr ι1 M1 w1 ι2 M2 w2) : Tr ι M w ι2 M2 w2 where
  rel := k.rel
  agree b hb := (k.agree b (Nat.lt_of_lt_of_le hb h.next)).trans (h.agree b hb)
  next := Nat.le_trans h.next k.next
  dead b hb hd := k.dead b (Nat.lt_of_lt_of_le hb h.next) (h.dead b hb hd)
  ro b x hx ho := h.ro b x (k.ro b x hx ho) ho
  owned b x l h1 h2 h3 h4 := by
    obtain ⟨b1, x1, l1, a1, a2, a3, a4⟩ := k.owned b x l h1 h2 h3 (Nat.lt_of_lt_of_le h4 h.size)
    obtain ⟨b0, x0, l0, c1, c2, c3, c4⟩ := h.owned b1 x1 l1 a1 a2 a3 (a4 ▸ h4)
    exact ⟨b0, x0, l0, c1, c2, c3, c4.trans a4⟩
  keep j hj hn := by
    refine (k.keep j (Nat.lt_of_lt_of_le hj h.size) fun b x l h1 h2 h3 e => ?_).trans (h.keep j hj hn)
    obtain ⟨b0, x0, l0, c1, c2, c3, c4⟩ := h.owned b x l h1 h2 h3 (e ▸ hj)
    exact hn b0 x0 l0 c1 c2 c3 (c4.trans e)
  size := Nat.le_trans h.size k.size
  os := k.os.trans h.os
  tape := k.tape.trans h.tape
  output := k.output.trans h.output

/-- A draw turns nothing. -/
theorem R.drew {ι : Inj} {M : Heap} {w : World} (r : R ι M w) (n : Nat) : R ι M { w with drawn := n } := ⟨r.blk, r.apart, r.fresh⟩
theorem Tr.drew {ι : Inj} {M : Heap} {w : World} (r : R ι M w) (n : Nat) : Tr ι M w ι M { w with drawn := n } :=
  ⟨r.drew n, fun _ _ => rfl, Nat.le_refl _, fun _ _ h => h, fun _ _ h _ => h, fun b x l h1 h2 h3 _ => ⟨b, x, l, h1, h2, h3, rfl⟩, fun _ _ _ => rfl, Nat.le_refl _, rfl, rfl, rfl⟩

/-! ### Cells of a world -/

theorem cell_of {w : World} {j i : Nat} {cs : Array Value} {e : TypeId} {fz : Nat × Nat} {v : Value} (h : w.heap[j]? = some (.cells cs e fz)) (hv : cs[i]? = some v) : w.cell? ⟨j, i, none⟩ = some v := by
  simp [World.cell?, h, hv]

theorem add_none (j o n : Nat) : (⟨j, o, none⟩ : Addr).add n = ⟨j, o + n, none⟩ := by
  unfold Addr.add; split <;> simp_all

/-- Reading cells of a block. -/
theorem R.read {ι : Inj} {M : Heap} {w : World} (r : R ι M w) {b o n : Nat} {cs : List AV} (h : M.read b o n = some cs) :
    cs.length = n ∧ (∀ a, a ∈ cs → a.isCell = true) ∧ ∃ l vs, ι b = some l ∧ VRL ι cs vs ∧ (∀ i v, vs[i]? = some v → w.cell? ⟨l.j, l.d + o + i, none⟩ = some v) := by
  unfold Heap.read at h
  split at h
  case h_2 => cases h
  rename_i c ro sl hb
  split at h
  case isFalse => cases h
  rename_i hle
  obtain rfl := Option.some.inj h
  obtain ⟨l, ob, hl, ho, cs, elem, fz, rfl, h2, h3, h4, h5, h6⟩ := r.blk b _ hb
  refine ⟨by simp; omega, ?_, l, ((cs.toList.drop (l.d + o)).take n), hl, ?_, ?_⟩
  · intro a ha
    obtain ⟨i, hi⟩ := List.mem_iff_getElem?.1 (List.mem_of_mem_drop (List.mem_of_mem_take ha))
    obtain ⟨v, _, hc, _⟩ := h5 i a hi
    exact hc
  · refine VRL.of_get (by simp; omega) fun i a v ha hv => ?_
    simp only [List.getElem?_take, List.getElem?_drop] at ha hv
    split at ha
    case isFalse => cases ha
    rename_i hi
    rw [if_pos hi] at hv
    obtain ⟨v', hv', _, hr⟩ := h5 _ a ha
    rw [show l.d + o + i = l.d + (o + i) from by omega] at hv
    rw [Array.getElem?_toList] at hv
    rw [hv] at hv'
    obtain rfl := Option.some.inj hv'
    exact hr
  · intro i v hv
    simp only [List.getElem?_take, List.getElem?_drop] at hv
    split at hv
    case isFalse => cases hv
    rw [Array.getElem?_toList] at hv
    exact cell_of ho hv

end Go.Proofs.Ytlcjmchhnbdepaa
end

section
/- The abstract machine, third part: the pure operations: how one is read off the program, and that the model's comes to the same. -/
set_option linter.all false
set_option linter.unusedSimpArgs false
namespace Go.Proofs.Ytlcjmchhnbdepaa

/-! ### Reading the program -/

def ofScalar : Value → Option AV
  | .bool b => some (.bool b)
  | .int k n => some (.int k n)
  | .string s => some (.str s.data.toList)
  | .pointer none => some (.ptr none)
  | .slice none 0 0 => some (.slice none 1 0 0 true)
  | .map none => some (.map none)
  | .nilFunc => some .nilFunc
  | _ => none

def ofScalars : List Value → Option (List AV)
  | [] => some []
  | v :: r => match ofScalar v, ofScalars r with
    | some a, some l => some (a :: l)
    | _, _ => none

def ofVal (v : Value) : Option AV :=
  match v with
  | .agg cs => (ofScalars cs.toList).map .agg
  | v => ofScalar v

def cX : Operand → Option AX
  | .tmp t => some (.t t)
  | .const v => (ofVal v).map .c
  | .func f => some (.c (.func f []))
  | .global _ => none

def szOf (P : Program) (t : TypeId) : Option Nat := (P.info? t).map (·.size)
def aggOf (P : Program) (t : TypeId) : Option Bool :=
  match P.underlying t with
  | some (.struct _) | some (.array _ _) => some true
  | some _ => some false
  | none => none
def zeroOf (P : Program) (t : TypeId) : Option (List AV) :=
  match (P.info? t).bind (·.zero) with
  | some z => ofScalars z.cells.toList
  | none => none

theorem ofScalar_VR {v : Value} {a : AV} (h : ofScalar v = some a) (ι : Inj) : VR ι a v ∧ a.isCell = true := by
  unfold ofScalar at h
  split at h <;> first
    | (obtain rfl := Option.some.inj h; simp [VR, AV.isCell])
    | cases h

theorem ofScalars_VR (ι : Inj) : ∀ {vs : List Value} {l : List AV}, ofScalars vs = some l → VRL ι l vs ∧ ∀ a, a ∈ l → a.isCell = true
  | [], l, h => by
    simp only [ofScalars, Option.some.injEq] at h
    subst h
    simp [VRL]
  | v :: r, l, h => by
    simp only [ofScalars] at h
    split at h
    · rename_i a l' h1 h2
      obtain rfl := Option.some.inj h
      have a1 := ofScalar_VR h1 ι
      have a2 := ofScalars_VR ι h2
      refine ⟨by simp only [VRL]; exact ⟨a1.1, a2.1⟩, fun x hx => ?_⟩
      rcases List.mem_cons.1 hx with rfl | hx
      · exact a1.2
      · exact a2.2 x hx
    · cases h

theorem ofVal_VR {v : Value} {a : AV} (h : ofVal v = some a) (ι : Inj) : VR ι a v := by
  unfold ofVal at h
  split at h
  · rename_i cs
    obtain ⟨l, hl, rfl⟩ := Option.map_eq_some_iff.1 h
    simp only [VR]
    exact ⟨cs, rfl, (ofScalars_VR ι hl).1⟩
  · exact (ofScalar_VR h ι).1

theorem cX_VR {x : Operand} {ax : AX} (h : cX x = some ax) {ι : Inj} {e : Env} {a : Act} (he : VRL ι e a.tmps.toList) : VR ι (ax.ev e) (a.eval x) := by
  cases x with
  | tmp t =>
    simp only [cX, Option.some.injEq] at h
    subst h
    simp only [AX.ev, Act.eval]
    have := he.getD t undef
    rw [Array.getD_eq_getD_getElem?]
    rw [List.getD_eq_getElem?_getD (l := a.tmps.toList)] at this
    simpa using this
  | const v =>
    simp only [cX] at h
    obtain ⟨b, hb, rfl⟩ := Option.map_eq_some_iff.1 h
    exact ofVal_VR hb ι
  | func f =>
    simp only [cX, Option.some.injEq] at h
    subst h
    simp only [AX.ev, Act.eval, VR]
    exact ⟨#[], rfl, by simp [VRL]⟩
  | global g => simp [cX] at h

/-! ### Runs of what reads the program -/

theorem run_sz {P : Program} {t : TypeId} {n : Nat} (h : szOf P t = some n) (w : World) : (sizeOf t).run P w = .ok n w := by
  unfold szOf at h
  obtain ⟨i, hi, rfl⟩ := Option.map_eq_some_iff.1 h
  simp [sizeOf, typeInfo, hi]

theorem run_agg {P : Program} {t : TypeId} {b : Bool} (h : aggOf P t = some b) (w : World) : (isAgg t).run P w = .ok b w := by
  unfold aggOf at h
  cases hd : P.underlying t with
  | none => simp [hd] at h
  | some d =>
    rw [hd] at h
    cases d <;> (simp only [Option.some.injEq] at h; subst h; simp [isAgg, run_underlying hd])

theorem run_zero {P : Program} {t : TypeId} {l : List AV} (h : zeroOf P t = some l) (w : World) : ∃ z, (zeroValue t).run P w = .ok z w ∧ (∀ ι, VRL ι l z.cells.toList) ∧ ∀ a, a ∈ l → a.isCell = true := by
  unfold zeroOf at h
  split at h
  case h_2 => cases h
  rename_i z hz
  obtain ⟨i, hi, hz⟩ := Option.bind_eq_some_iff.1 hz
  refine ⟨z, by simp [zeroValue, typeInfo, hi, hz], fun ι => (ofScalars_VR ι h).1, (ofScalars_VR (fun _ => none) h).2⟩

theorem run_part {P : Program} {t : TypeId} {n off : Nat} {g : Bool} (hg : aggOf P t = some g) (hn : szOf P t = some n) {ι : Inj} {cs : List AV} {vs : Array Value} (h : VRL ι cs vs.toList) {a : AV} (ha : aPart g off n cs = some a) (w : World) :
    ∃ v, (part t vs off).run P w = .ok v w ∧ VR ι a v := by
  unfold aPart at ha
  cases g with
  | true =>
    simp only [if_true, Option.some.injEq] at ha
    subst ha
    refine ⟨.agg (vs.extract off (off + n)), by simp [part, run_agg hg, run_sz hn], ?_⟩
    simp only [VR]
    refine ⟨_, rfl, ?_⟩
    rw [Array.toList_extract, List.extract_eq_take_drop, Nat.add_sub_cancel_left]
    exact (h.drop off).take n
  | false =>
    simp only [Bool.false_eq_true, if_false] at ha
    obtain ⟨v, hv, hr⟩ := h.get off a ha
    refine ⟨v, ?_, hr⟩
    rw [Array.getElem?_toList] at hv
    simp [part, run_agg hg, hv]

/-! ### The pure operations: what it means that one is right -/

def POk (P : Program) (o : Oper) (p : POp) : Prop :=
  ∀ (ι : Inj) (e : Env) (a : Act) (w : World) (v : AV), VRL ι e a.tmps.toList → aP p e = some v → ∃ v', (execOp a.eval o).run P w = .ok (.value v') w ∧ VR ι v v'

theorem run_value {P : Program} {s : Sem Value} {w w' : World} {v : Value} (h : s.run P w = .ok v w') : ((do pure (Next.value (← s))) : Sem Next).run P w = .ok (.value v) w' := by
  simp [h]

theorem POk.move {P : Program} {o : Oper} {x : Operand} {ax : AX} (ho : o.op = .move x ∨ o.op = .assign x) (hx : cX x = some ax) : POk P o (.move ax) := by
  intro ι e a w v he hv
  simp only [aP, Option.some.injEq] at hv
  subst hv
  refine ⟨a.eval x, ?_, cX_VR hx he⟩
  rcases ho with ho | ho <;> simp [execOp, ho]

theorem POk.pick {P : Program} {o : Oper} {x y z : Operand} {ax ay az : AX} (ho : o.op = .pick x y z) (hx : cX x = some ax) (hy : cX y = some ay) (hz : cX z = some az) : POk P o (.pick ax ay az) := by
  intro ι e a w v he hv
  have h1 := cX_VR hx he
  simp only [aP] at hv
  split at hv
  · rename_i hc
    obtain rfl := Option.some.inj hv
    rw [hc] at h1
    simp only [VR] at h1
    exact ⟨a.eval y, by simp [execOp, ho, h1, asBool], cX_VR hy he⟩
  · rename_i hc
    obtain rfl := Option.some.inj hv
    rw [hc] at h1
    simp only [VR] at h1
    exact ⟨a.eval z, by simp [execOp, ho, h1, asBool], cX_VR hz he⟩
  · cases hv

theorem POk.nilCheck {P : Program} {o : Oper} {x : Operand} {ax : AX} (ho : o.op = .nilCheck x) (hx : cX x = some ax) : POk P o (.nilCheck ax) := by
  intro ι e a w v he hv
  have h1 := cX_VR hx he
  simp only [aP] at hv
  split at hv
  · rename_i p hc
    obtain rfl := Option.some.inj hv
    rw [hc] at h1
    refine ⟨a.eval x, ?_, h1⟩
    simp only [VR] at h1
    obtain ⟨l, _, h2⟩ := h1
    simp [execOp, ho, h2]
  · rename_i f cs hc
    obtain rfl := Option.some.inj hv
    rw [hc] at h1
    refine ⟨a.eval x, ?_, h1⟩
    simp only [VR] at h1
    obtain ⟨l, h2, _⟩ := h1
    simp [execOp, ho, h2]
  · cases hv

theorem run_aInts {P : Program} {op : BinOp} {k : IntKind} {x y : Int} {v : AV} (h : aInts op k x y = some v) (t : TypeId) (w : World) (ι : Inj) :
    ∃ v', (binOp op t (.int k x) (.int k y)).run P w = .ok v' w ∧ VR ι v v' := by
  cases op <;> simp only [aInts] at h
  case quo =>
    split at h
    · cases h
    rename_i hy
    obtain rfl := Option.some.inj h
    exact ⟨_, by simp only [binOp_quo, Op.intDiv, if_neg hy]; rfl, by simp [VR]⟩
  case rem =>
    split at h
    · cases h
    rename_i hy
    obtain rfl := Option.some.inj h
    exact ⟨_, by simp only [binOp_rem, Op.intDiv, if_neg hy]; rfl, by simp [VR]⟩
  case shl => cases h
  case shr => cases h
  all_goals
    obtain rfl := Option.some.inj h
    exact ⟨_, by simp [binOp, Op.intArith, Op.intBits, Op.intCmp]; try rfl, by simp [VR]⟩

theorem run_aStrs {P : Program} {op : BinOp} {x y : ByteArray} {v : AV} (h : aStrs op x.data.toList y.data.toList = some v) (t : TypeId) (w : World) (ι : Inj) :
    ∃ v', (binOp op t (.string x) (.string y)).run P w = .ok v' w ∧ VR ι v v' := by
  cases op <;> simp only [aStrs] at h
  case add =>
    split at h
    case isFalse => cases h
    rename_i hl
    obtain rfl := Option.some.inj h
    refine ⟨.string (x ++ y), ?_, ?_⟩
    · have h1 : ¬ (((x.size + y.size : Nat) : Int) > IntKind.i64.max) := by
        have e1 : x.data.toList.length = x.size := by simp
        have e2 : y.data.toList.length = y.size := by simp
        rw [e1, e2] at hl
        simp only [IntKind.max_i64]
        omega
      rw [binOp_string_add]
      simp only [Op.stringOp, if_neg h1]
      rfl
    · simp only [VR]
      exact ⟨_, rfl, by simp⟩
  all_goals
    first
      | (cases h; done)
      | (obtain rfl := Option.some.inj h
         exact ⟨_, by simp [binOp, Op.stringOp, ByteArray.toList_eq]; try rfl, by simp [VR]⟩)

theorem eqGuard_plain (op : BinOp) (t : TypeId) (x y : Operand) (a b : Value) (h : ¬ (∃ c d, a = .agg c ∧ b = .agg d) ∧ a ≠ .nilIface) : eqGuard op t x y a b = pure () := by
  unfold eqGuard
  cases op <;> simp <;> (split <;> simp_all)

theorem POk.bin {P : Program} {o : Oper} {op : BinOp} {t u : TypeId} {x y : Operand} {ax ay : AX} (ho : o.op = .binOp op t x y u) (hx : cX x = some ax) (hy : cX y = some ay) : POk P o (.bin op ax ay) := by
  intro ι e a w v he hv
  have h1 := cX_VR hx he
  have h2 := cX_VR hy he
  simp only [aP] at hv
  unfold aBin at hv
  split at hv
  · rename_i k n k' m hc1 hc2
    rw [hc1] at h1
    rw [hc2] at h2
    simp only [VR] at h1 h2
    have hg := eqGuard_plain op t x y (.int k n) (.int k' m) (by simp)
    have key : ∃ v', (binOp op t (.int k n) (.int k' m)).run P w = .ok v' w ∧ VR ι v v' := by
      cases op
      case shl =>
        simp only at hv
        split at hv
        · cases hv
        rename_i hb
        obtain rfl := Option.some.inj hv
        exact ⟨.int k (k.wrap (n * 2 ^ min m.toNat k.bits)), by rw [binOp_shl]; simp [Op.shift, hb], by simp [VR]⟩
      case shr =>
        simp only at hv
        split at hv
        · cases hv
        rename_i hb
        obtain rfl := Option.some.inj hv
        exact ⟨.int k (n.fdiv (2 ^ min m.toNat k.bits)), by rw [binOp_shr]; simp [Op.shift, hb], by simp [VR]⟩
      all_goals
        simp only at hv
        split at hv
        case isFalse => cases hv
        rename_i hk
        subst hk
        exact run_aInts hv t w ι
    obtain ⟨v', hr, hrel⟩ := key
    exact ⟨v', by simp only [execOp, ho, h1, h2, hg]; simp [hr], hrel⟩
  · rename_i s s' hc1 hc2
    rw [hc1] at h1
    rw [hc2] at h2
    simp only [VR] at h1 h2
    obtain ⟨b1, h1, rfl⟩ := h1
    obtain ⟨b2, h2, rfl⟩ := h2
    have hg := eqGuard_plain op t x y (.string b1) (.string b2) (by simp)
    obtain ⟨v', hr, hrel⟩ := run_aStrs (P := P) hv t w ι
    exact ⟨v', by simp only [execOp, ho, h1, h2, hg]; simp [hr], hrel⟩
  · cases hv

theorem POk.un {P : Program} {o : Oper} {op : UnOp} {t : TypeId} {x : Operand} {ax : AX} (ho : o.op = .unOp op t x) (hx : cX x = some ax) : POk P o (.un op ax) := by
  intro ι e a w v he hv
  have h1 := cX_VR hx he
  simp only [aP] at hv
  unfold aUn at hv
  split at hv
  all_goals first
    | (cases hv; done)
    | (rename_i hc
       obtain rfl := Option.some.inj hv
       rw [hc] at h1
       simp only [VR] at h1
       exact ⟨_, by simp only [execOp, ho, h1]; simp [Op.unary, Op.intArith, Op.intBits]; try rfl, by simp [VR]⟩)

theorem POk.cvInt {P : Program} {o : Oper} {s d : TypeId} {k : IntKind} {x : Operand} {ax : AX} (ho : o.op = .convert s d x) (hs : (P.underlying s).isSome = true) (hd : P.underlying d = some (.int k)) (hx : cX x = some ax) : POk P o (.cvInt k ax) := by
  intro ι e a w v he hv
  have h1 := cX_VR hx he
  obtain ⟨ds, hds⟩ := Option.isSome_iff_exists.1 hs
  simp only [aP] at hv
  split at hv
  case h_2 => cases hv
  rename_i k' n hc
  obtain rfl := Option.some.inj hv
  rw [hc] at h1
  simp only [VR] at h1
  refine ⟨.int k (k.wrap n), ?_, by simp [VR]⟩
  simp only [execOp, ho, h1]
  simp [convert, run_underlying hds, run_underlying hd, Conv.intToInt]

theorem POk.cvStr {P : Program} {o : Oper} {s d : TypeId} {x : Operand} {ax : AX} (ho : o.op = .convert s d x) (hs : P.underlying s = some .string) (hd : P.underlying d = some .string) (hx : cX x = some ax) : POk P o (.cvStr ax) := by
  intro ι e a w v he hv
  have h1 := cX_VR hx he
  simp only [aP] at hv
  split at hv
  case h_2 => cases hv
  rename_i k' hc
  obtain rfl := Option.some.inj hv
  rw [hc] at h1
  refine ⟨a.eval x, ?_, h1⟩
  simp only [VR] at h1
  obtain ⟨b, h1, _⟩ := h1
  simp only [execOp, ho, h1]
  simp [convert, run_underlying hs, run_underlying hd]

def cXs : List Operand → Option (List AX)
  | [] => some []
  | x :: r => match cX x, cXs r with
    | some a, some l => some (a :: l)
    | _, _ => none

theorem cXs_VR {ι : Inj} {e : Env} {a : Act} (he : VRL ι e a.tmps.toList) : ∀ {l : List Operand} {al : List AX}, cXs l = some al → VRL ι (al.map (AX.ev e)) (l.map a.eval)
  | [], al, h => by
    simp only [cXs, Option.some.injEq] at h
    subst h
    simp [VRL]
  | x :: r, al, h => by
    simp only [cXs] at h
    split at h
    case h_2 => cases h
    rename_i b l h1 h2
    obtain rfl := Option.some.inj h
    simp only [List.map_cons, VRL]
    exact ⟨cX_VR h1 he, cXs_VR he h2⟩

theorem POk.mkFunc {P : Program} {o : Oper} {f : FuncId} {caps : Array Operand} {al : List AX} (ho : o.op = .makeFunc (.func f) #[] caps) (hx : cXs caps.toList = some al) : POk P o (.mkFunc f al) := by
  intro ι e a w v he hv
  simp only [aP, Option.some.injEq] at hv
  subst hv
  refine ⟨.func (.func f) #[] (caps.map a.eval), by simp [execOp, ho, Instr.makeFunc], ?_⟩
  simp only [VR]
  exact ⟨_, rfl, by simpa using cXs_VR he hx⟩

def cXo : Option Operand → Option (Option AX)
  | none => some none
  | some x => (cX x).map some

/-- A bound that is there, in the model. -/
theorem run_bound {P : Program} {ι : Inj} {v : AV} {v' : Value} {m n : Nat} (h : aBound v m = some n) (r : VR ι v v') (m' : Nat) (hm : m ≤ m') (code : BoundsCode) (w : World) :
    (Instr.sliceBound v' m' code).run P w = .ok n w ∧ n ≤ m := by
  unfold aBound at h
  split at h
  case h_2 => cases h
  split at h
  case isFalse => cases h
  rename_i k i hi
  obtain rfl := Option.some.inj h
  simp only [VR] at r
  subst r
  exact ⟨run_sliceBound (P := P) w k i m' code hi.1 (by omega), by omega⟩

def hiMost (mx : Option AX) (cap m : Nat) : Nat :=
  match mx with
  | none => cap
  | some _ => m
def mxIs (e : Env) (mx : Option AX) (cap cap' m : Nat) : Prop :=
  match mx with
  | none => m = cap'
  | some x => aBound (x.ev e) cap = some m

theorem run_boundsO {P : Program} {ι : Inj} {e : Env} {a : Act} (he : VRL ι e a.tmps.toList) {lo hi mx : Option Operand} {alo ahi amx : Option AX} (hlo : cXo lo = some alo) (hhi : cXo hi = some ahi) (hmx : cXo mx = some amx) (isSlice : Bool) {len cap cap' : Nat} (hcap : cap ≤ cap') (hlc : len ≤ cap)
    {l h : Nat} {m : Nat} (w : World) (hm : mxIs e amx cap cap' m)
    (hh : aBoundO e ahi len (hiMost amx cap m) = some h) (hn : ahi = none → amx = none) (hl : aBoundO e alo 0 h = some l) :
    (Instr.sliceBounds isSlice len cap' (lo.map a.eval) (hi.map a.eval) (mx.map a.eval)).run P w = .ok (l, h, m) w ∧ l ≤ h ∧ h ≤ hiMost amx cap m ∧ (amx ≠ none → m ≤ cap) := by
  have B : ∀ (x : Operand) (ax : AX), cX x = some ax → ∀ m n m', aBound (ax.ev e) m = some n → m ≤ m' → (∀ code w, (Instr.sliceBound (a.eval x) m' code).run P w = .ok n w) ∧ n ≤ m :=
    fun x ax hx m n m' hb hm => ⟨fun code w => (run_bound (P := P) hb (cX_VR hx he) m' hm code w).1, (run_bound (P := P) hb (cX_VR hx he) m' hm .index w).2⟩
  have hlo' : (lo = none ∧ alo = none) ∨ ∃ x ax, lo = some x ∧ alo = some ax ∧ cX x = some ax := by
    cases lo with
    | none => simp only [cXo, Option.some.injEq] at hlo; exact .inl ⟨rfl, hlo.symm⟩
    | some x => simp only [cXo] at hlo; obtain ⟨ax, h1, h2⟩ := Option.map_eq_some_iff.1 hlo; exact .inr ⟨x, ax, rfl, h2.symm, h1⟩
  have hhi' : (hi = none ∧ ahi = none) ∨ ∃ x ax, hi = some x ∧ ahi = some ax ∧ cX x = some ax := by
    cases hi with
    | none => simp only [cXo, Option.some.injEq] at hhi; exact .inl ⟨rfl, hhi.symm⟩
    | some x => simp only [cXo] at hhi; obtain ⟨ax, h1, h2⟩ := Option.map_eq_some_iff.1 hhi; exact .inr ⟨x, ax, rfl, h2.symm, h1⟩
  have hmx' : (mx = none ∧ amx = none) ∨ ∃ x ax, mx = some x ∧ amx = some ax ∧ cX x = some ax := by
    cases mx with
    | none => simp only [cXo, Option.some.injEq] at hmx; exact .inl ⟨rfl, hmx.symm⟩
    | some x => simp only [cXo] at hmx; obtain ⟨ax, h1, h2⟩ := Option.map_eq_some_iff.1 hmx; exact .inr ⟨x, ax, rfl, h2.symm, h1⟩
  clear hlo hhi hmx
  rcases hmx' with ⟨rfl, rfl⟩ | ⟨x, ax, rfl, rfl, hx⟩
  · simp only [mxIs] at hm
    subst hm
    simp only [hiMost] at hh ⊢
    rcases hhi' with ⟨rfl, rfl⟩ | ⟨y, ay, rfl, rfl, hy⟩
    · simp only [aBoundO, Option.some.injEq] at hh
      subst hh
      rcases hlo' with ⟨rfl, rfl⟩ | ⟨z, az, rfl, rfl, hz⟩
      · simp only [aBoundO, Option.some.injEq] at hl
        subst hl
        exact ⟨by simp [Instr.sliceBounds], Nat.zero_le _, hlc, by simp⟩
      · simp only [aBoundO] at hl
        obtain ⟨k1, k2⟩ := B z az hz _ _ _ hl (Nat.le_refl _)
        exact ⟨by simp [Instr.sliceBounds, k1], k2, hlc, by simp⟩
    · simp only [aBoundO] at hh
      obtain ⟨j1, j2⟩ := B y ay hy _ _ _ hh hcap
      rcases hlo' with ⟨rfl, rfl⟩ | ⟨z, az, rfl, rfl, hz⟩
      · simp only [aBoundO, Option.some.injEq] at hl
        subst hl
        exact ⟨by simp [Instr.sliceBounds, j1], Nat.zero_le _, j2, by simp⟩
      · simp only [aBoundO] at hl
        obtain ⟨k1, k2⟩ := B z az hz _ _ _ hl (Nat.le_refl _)
        exact ⟨by simp [Instr.sliceBounds, j1, k1], k2, j2, by simp⟩
  · simp only [mxIs] at hm
    simp only [hiMost] at hh ⊢
    obtain ⟨i1, i2⟩ := B x ax hx _ _ _ hm hcap
    rcases hhi' with ⟨rfl, rfl⟩ | ⟨y, ay, rfl, rfl, hy⟩
    · cases hn rfl
    · simp only [aBoundO] at hh
      obtain ⟨j1, j2⟩ := B y ay hy _ _ _ hh (Nat.le_refl _)
      rcases hlo' with ⟨rfl, rfl⟩ | ⟨z, az, rfl, rfl, hz⟩
      · simp only [aBoundO, Option.some.injEq] at hl
        subst hl
        exact ⟨by simp [Instr.sliceBounds, i1, j1], Nat.zero_le _, j2, fun _ => i2⟩
      · simp only [aBoundO] at hl
        obtain ⟨k1, k2⟩ := B z az hz _ _ _ hl (Nat.le_refl _)
        exact ⟨by simp [Instr.sliceBounds, i1, j1, k1], k2, j2, fun _ => i2⟩

theorem POk.sliceStr {P : Program} {o : Oper} {t : TypeId} {x : Operand} {lo hi : Option Operand} {ax : AX} {alo ahi : Option AX} (ho : o.op = .slice t x lo hi none) (ht : P.underlying t = some .string) (hx : cX x = some ax)
    (hlo : cXo lo = some alo) (hhi : cXo hi = some ahi) : POk P o (.sliceStr ax alo ahi) := by
  intro ι e a w v he hv
  have h1 := cX_VR hx he
  simp only [aP] at hv
  split at hv
  case h_2 => cases hv
  rename_i s hc
  rw [hc] at h1
  simp only [VR] at h1
  obtain ⟨b, h1, rfl⟩ := h1
  unfold aSliceStr at hv
  obtain ⟨h, hh, hv⟩ := Option.bind_eq_some_iff.1 hv
  obtain ⟨l, hl, hv⟩ := Option.bind_eq_some_iff.1 hv
  obtain rfl := Option.some.inj hv
  have hsz : b.data.toList.length = b.size := by simp
  rw [hsz] at hh
  have key := run_boundsO (P := P) he (mx := none) (amx := none) hlo hhi rfl false (Nat.le_refl b.size) (Nat.le_refl b.size) (l := l) (h := h) (m := b.size) w rfl hh (fun _ => rfl) hl
  refine ⟨.string (b.extract l h), ?_, ?_⟩
  · simp only [execOp, ho, h1]
    simp only [Option.map_none] at key ⊢
    simp [Instr.sliceAt, run_underlying ht, Instr.slice, key.1]
  · simp only [VR]
    refine ⟨_, rfl, ?_⟩
    obtain ⟨⟨bl⟩⟩ := b
    rw [ByteArray.extract_mk]

theorem aShift_none {a : Option (Nat × Nat)} {n : Nat} : (aShift a n = none) ↔ a = none := by cases a <;> simp [aShift]

theorem POk.slice {P : Program} {o : Oper} {t elem : TypeId} {n : Nat} {x : Operand} {lo hi mx : Option Operand} {ax : AX} {alo ahi amx : Option AX} (ho : o.op = .slice t x lo hi mx) (ht : P.underlying t = some (.slice elem)) (hn : szOf P elem = some n) (hx : cX x = some ax)
    (hlo : cXo lo = some alo) (hhi : cXo hi = some ahi) (hmx : cXo mx = some amx) : POk P o (.slice n ax alo ahi amx) := by
  intro ι e a w v he hv
  have h1 := cX_VR hx he
  simp only [aP] at hv
  split at hv
  case h_2 => cases hv
  rename_i p sz' len cap ex hc
  rw [hc] at h1
  have shape : ∃ base cap', a.eval x = .slice base len cap' ∧ len ≤ cap ∧ cap ≤ cap' ∧ (ex = true → cap' = cap) ∧
      (∀ l h m ex', l ≤ h → h ≤ m → m ≤ cap → (p = none ∨ sz' = n) → ∀ m', (ex' = true → m' = m) → m ≤ m' → m' ≤ cap' → VR ι (.slice (aShift p (l * n)) n (h - l) (m - l) (if p.isNone then true else ex')) (.slice (if m' = l then base else base.map (·.add (l * n))) (h - l) (m' - l))) ∧
      (p = none → ex = true ∧ cap = 0) := by
    cases p with
    | none =>
      simp only [VR] at h1
      obtain ⟨h1, rfl, rfl, rfl⟩ := h1
      refine ⟨none, 0, h1, Nat.le_refl _, Nat.le_refl _, fun _ => rfl, fun l h m ex' a1 a2 a3 _ m' _ _ a5 => ?_, fun _ => ⟨rfl, rfl⟩⟩
      obtain rfl : m = 0 := by omega
      obtain rfl : h = 0 := by omega
      obtain rfl : l = 0 := by omega
      obtain rfl : m' = 0 := by omega
      simp [aShift, VR]
    | some q =>
      obtain ⟨b, off⟩ := q
      simp only [VR] at h1
      obtain ⟨L, ad, cap', e1, e2, e3, e4, e5, e6, e7, e8, e9, e10⟩ := h1
      refine ⟨some ad, cap', e2, e6, e7, e8, fun l h m ex' a1 a2 a3 a4 m' a5 a6 a7 => ?_, fun h => by cases h⟩
      obtain rfl : sz' = n := a4.resolve_left (by simp)
      simp only [aShift, Option.map_some, Option.isNone_some, Bool.false_eq_true, if_false, VR]
      have hsp : ∃ ad', (if m' = l then some ad else some (ad.add (l * sz'))) = some ad' ∧ (m' - l = 0 ∨ ad'.block = L.j) ∧ (m' - l = 0 ∨ ad'.spot = none) ∧ (m' - l = 0 ∨ ad'.off = L.d + (off + l * sz')) := by
        by_cases hm : m' = l
        · exact ⟨ad, by rw [if_pos hm], .inl (by omega), .inl (by omega), .inl (by omega)⟩
        · rw [if_neg hm]
          replace e3 := e3.resolve_left (by omega)
          replace e4 := e4.resolve_left (by omega)
          refine ⟨_, rfl, .inr ?_, .inr ?_, .inr ?_⟩
          · unfold Addr.add; split <;> simp [e3]
          · unfold Addr.add; split <;> simp [e4]
          · have hoff := e5.resolve_left (by omega)
            unfold Addr.add
            split
            · rename_i h0; rw [hoff, h0]; omega
            · simp only; rw [hoff]; omega
      obtain ⟨ad', f1, f2, f3, f4⟩ := hsp
      refine ⟨L, ad', m' - l, e1, by rw [f1], f2, f3, f4, by omega, by omega, fun hx => by rw [a5 hx], ?_, e10⟩
      have : l * sz' + (m' - l) * sz' = m' * sz' := by rw [← Nat.add_mul]; congr 1; omega
      have : m' * sz' ≤ cap' * sz' := Nat.mul_le_mul_right _ a7
      omega
  obtain ⟨base, cap', hev, hlc, hcc, hex, hres, hnil⟩ := shape
  unfold aSlice at hv
  split at hv
  case isFalse => cases hv
  rename_i hsz
  cases amx with
  | none =>
    simp only at hv
    obtain ⟨h, hh, hv⟩ := Option.bind_eq_some_iff.1 hv
    obtain ⟨l, hl, hv⟩ := Option.bind_eq_some_iff.1 hv
    obtain rfl := Option.some.inj hv
    have key := run_boundsO (P := P) he hlo hhi hmx true hcc hlc (l := l) (h := h) (m := cap') w rfl hh (fun _ => rfl) hl
    refine ⟨.slice (if cap' = l then base else base.map (·.add (l * n))) (h - l) (cap' - l), ?_, ?_⟩
    · simp only [execOp, ho, hev]
      simp [Instr.sliceAt, run_underlying ht, Instr.slice, key.1, run_sz hn]
    · have := hres l h cap ex key.2.1 (by simpa [hiMost] using key.2.2.1) (Nat.le_refl _) hsz cap' hex hcc (Nat.le_refl _)
      cases hp : p with
      | none =>
        obtain ⟨rfl, rfl⟩ := hnil hp
        simpa [hp] using this
      | some q => simpa [hp] using this
  | some am =>
    simp only at hv
    obtain ⟨m, hm, hv⟩ := Option.bind_eq_some_iff.1 hv
    cases ahi with
    | none => cases hv
    | some ah =>
      simp only at hv
      obtain ⟨h, hh, hv⟩ := Option.bind_eq_some_iff.1 hv
      obtain ⟨l, hl, hv⟩ := Option.bind_eq_some_iff.1 hv
      obtain rfl := Option.some.inj hv
      have key := run_boundsO (P := P) he hlo hhi hmx true hcc hlc (l := l) (h := h) (m := m) w hm hh (fun h => by cases h) hl
      refine ⟨.slice (if m = l then base else base.map (·.add (l * n))) (h - l) (m - l), ?_, ?_⟩
      · simp only [execOp, ho, hev]
        simp [Instr.sliceAt, run_underlying ht, Instr.slice, key.1, run_sz hn]
      · have := hres l h m true key.2.1 (by simpa [hiMost] using key.2.2.1) (key.2.2.2 (by simp)) hsz m (fun _ => rfl) (Nat.le_refl _) (Nat.le_trans (key.2.2.2 (by simp)) hcc)
        cases hp : p with
        | none => simpa [hp] using this
        | some q => simpa [hp] using this


theorem POk.fieldAddr {P : Program} {o : Oper} {t : TypeId} {fs : Array Field} {f : Nat} {fd : Field} {n : Nat} {x : Operand} {ax : AX} (ho : o.op = .fieldAddr t x f) (ht : P.underlying t = some (.struct fs)) (hf : fs[f]? = some fd) (hn : szOf P fd.type = some (n + 1)) (hx : cX x = some ax) : POk P o (.fieldAddr fd.offset ax) := by
  intro ι e a w v he hv
  have h1 := cX_VR hx he
  simp only [aP] at hv
  split at hv
  case h_2 => cases hv
  rename_i p hc
  obtain rfl := Option.some.inj hv
  rw [hc] at h1
  obtain ⟨b, off⟩ := p
  simp only [VR] at h1
  obtain ⟨L, hL, h1⟩ := h1
  refine ⟨.pointer (some ⟨L.j, L.d + off + fd.offset, none⟩), ?_, ?_⟩
  · simp only [execOp, ho, h1]
    simp [Instr.fieldAt, run_underlying ht, hf, Instr.sureAddr, fieldPlace, run_sz hn, add_none]
  · simp only [VR]
    exact ⟨L, hL, by rw [Nat.add_assoc]⟩

theorem POk.field {P : Program} {o : Oper} {t : TypeId} {fs : Array Field} {f : Nat} {fd : Field} {n : Nat} {g : Bool} {x : Operand} {ax : AX} (ho : o.op = .field t x f) (ht : P.underlying t = some (.struct fs)) (hf : fs[f]? = some fd) (hg : aggOf P fd.type = some g) (hn : szOf P fd.type = some n) (hx : cX x = some ax) : POk P o (.field g fd.offset n ax) := by
  intro ι e a w v he hv
  have h1 := cX_VR hx he
  simp only [aP] at hv
  split at hv
  case h_2 => cases hv
  rename_i cs hc
  rw [hc] at h1
  simp only [VR] at h1
  obtain ⟨vs, h1, h2⟩ := h1
  obtain ⟨v', hr, hv'⟩ := run_part (P := P) hg hn h2 hv w
  exact ⟨v', by simp only [execOp, ho, h1]; simp [Instr.field, run_underlying ht, hf, asAgg, hr], hv'⟩

theorem POk.idxArr {P : Program} {o : Oper} {t elem : TypeId} {m n : Nat} {x i : Operand} {ax ai : AX} (ho : o.op = .indexAddr t x i) (ht : P.underlying t = some (.array m elem)) (hn : szOf P elem = some n) (hx : cX x = some ax) (hi : cX i = some ai) : POk P o (.idxArr m n ax ai) := by
  intro ι e a w v he hv
  have h1 := cX_VR hx he
  have h2 := cX_VR hi he
  simp only [aP] at hv
  split at hv
  case h_2 => cases hv
  rename_i p k j hc1 hc2
  rw [hc1] at h1
  rw [hc2] at h2
  obtain ⟨b, off⟩ := p
  split at hv
  case isFalse => cases hv
  rename_i hj
  obtain rfl := Option.some.inj hv
  simp only [VR] at h1 h2
  obtain ⟨L, hL, h1⟩ := h1
  refine ⟨.pointer (some ⟨L.j, L.d + off + j.toNat * n, none⟩), ?_, ?_⟩
  · simp only [execOp, ho, h1, h2]
    simp [Instr.indexAt, asIntOf, run_underlying ht, Instr.sureAddr, hj.1, hj.2, run_sz hn, add_none]
  · simp only [VR]
    exact ⟨L, hL, by rw [Nat.add_assoc]⟩

theorem POk.idxSlice {P : Program} {o : Oper} {t elem : TypeId} {n : Nat} {x i : Operand} {ax ai : AX} (ho : o.op = .indexAddr t x i) (ht : P.underlying t = some (.slice elem)) (hn : szOf P elem = some n) (hx : cX x = some ax) (hi : cX i = some ai) : POk P o (.idxSlice n ax ai) := by
  intro ι e a w v he hv
  have h1 := cX_VR hx he
  have h2 := cX_VR hi he
  simp only [aP] at hv
  split at hv
  case h_2 => cases hv
  rename_i p sz' len cap ex k j hc1 hc2
  rw [hc1] at h1
  rw [hc2] at h2
  obtain ⟨b, off⟩ := p
  split at hv
  case isFalse => cases hv
  rename_i hj
  obtain rfl := Option.some.inj hv
  obtain ⟨hj0, hj1, rfl⟩ := hj
  simp only [VR] at h1 h2
  obtain ⟨L, ad, cap', e1, e2, e3, e4, e5, e6, e7, e8, e9, e10⟩ := h1
  have hoff := e5.resolve_left (by omega)
  replace e3 := e3.resolve_left (by omega)
  replace e4 := e4.resolve_left (by omega)
  obtain ⟨ab, ao, asp⟩ := ad
  simp only at e3 e4 hoff
  subst e3 e4 hoff
  refine ⟨.pointer (some ⟨L.j, L.d + off + j.toNat * sz', none⟩), ?_, ?_⟩
  · simp only [execOp, ho, e2, h2]
    simp [Instr.indexAt, asIntOf, run_underlying ht, hj0, hj1, run_sz hn, add_none]
  · simp only [VR]
    exact ⟨L, e1, by rw [Nat.add_assoc]⟩

theorem POk.index {P : Program} {o : Oper} {t elem : TypeId} {m n : Nat} {g : Bool} {x i : Operand} {ax ai : AX} (ho : o.op = .index t x i) (ht : P.underlying t = some (.array m elem)) (hg : aggOf P elem = some g) (hn : szOf P elem = some n) (hx : cX x = some ax) (hi : cX i = some ai) : POk P o (.index g m n ax ai) := by
  intro ι e a w v he hv
  have h1 := cX_VR hx he
  have h2 := cX_VR hi he
  simp only [aP] at hv
  split at hv
  case h_2 => cases hv
  rename_i cs k j hc1 hc2
  rw [hc1] at h1
  rw [hc2] at h2
  split at hv
  case isFalse => cases hv
  rename_i hj
  simp only [VR] at h1 h2
  obtain ⟨vs, h1, h3⟩ := h1
  obtain ⟨v', hr, hv'⟩ := run_part (P := P) hg hn h3 hv w
  exact ⟨v', by simp only [execOp, ho, h1, h2]; simp [Instr.index, asIntOf, run_underlying ht, hj.1, hj.2, run_sz hn, hr], hv'⟩

theorem POk.indexStr {P : Program} {o : Oper} {t : TypeId} {x i : Operand} {ax ai : AX} (ho : o.op = .index t x i) (ht : P.underlying t = some .string) (hx : cX x = some ax) (hi : cX i = some ai) : POk P o (.indexStr ax ai) := by
  intro ι e a w v he hv
  have h1 := cX_VR hx he
  have h2 := cX_VR hi he
  simp only [aP] at hv
  split at hv
  case h_2 => cases hv
  rename_i s k j hc1 hc2
  rw [hc1] at h1
  rw [hc2] at h2
  split at hv
  case isFalse => cases hv
  rename_i hj
  simp only [VR] at h1 h2
  obtain ⟨b, h1, rfl⟩ := h1
  obtain ⟨c, hcc, rfl⟩ := Option.map_eq_some_iff.1 hv
  have hlt : j.toNat < b.size := by
    have := (List.getElem?_eq_some_iff.1 hcc).1
    simpa using this
  have hget : b[j.toNat]? = some c := by
    rw [ByteArray.getElem?_lt' b _ hlt]
    have := (List.getElem?_eq_some_iff.1 hcc).2
    rw [← this]
    rfl
  refine ⟨.int .u8 c.toNat, ?_, by simp [VR]⟩
  simp only [execOp, ho, h1, h2]
  simp [Instr.index, asIntOf, run_underlying ht, hj, hget]

theorem POk.extract {P : Program} {o : Oper} {x : Operand} {i : Nat} {ax : AX} (ho : o.op = .extract x i) (hx : cX x = some ax) : POk P o (.extract ax i) := by
  intro ι e a w v he hv
  have h1 := cX_VR hx he
  simp only [aP] at hv
  split at hv
  case h_2 => cases hv
  rename_i cs hc
  rw [hc] at h1
  simp only [VR] at h1
  obtain ⟨vs, h1, h2⟩ := h1
  obtain ⟨v', hr, hv'⟩ := h2.get i v hv
  rw [Array.getElem?_toList] at hr
  exact ⟨v', by simp only [execOp, ho, h1]; simp [Instr.extract, hr], hv'⟩

theorem POk.lenStr {P : Program} {o : Oper} {t : TypeId} {x : Operand} {ax : AX} (ho : o.op = .call { callee := .builtin .len, args := #[x], argTypes := #[t] })
    (ht : P.underlying t = some .string) (hx : cX x = some ax) : POk P o (.len true ax) := by
  intro ι e a w v he hv
  have h1 := cX_VR hx he
  simp only [aP] at hv
  split at hv
  case h_3 => cases hv
  case h_2 => contradiction
  rename_i s _ hc
  obtain rfl := Option.some.inj hv
  rw [hc] at h1
  simp only [VR] at h1
  obtain ⟨b, h1, rfl⟩ := h1
  refine ⟨.int .i64 b.size, ?_, by simp [VR]⟩
  simp [execOp, ho, resolve, invoke, builtin, Builtin.len_, h1, run_underlying ht, goInt]

theorem slice_form {ι : Inj} {p : Option (Nat × Nat)} {sz len cap : Nat} {ex : Bool} {v : Value} (h : VR ι (.slice p sz len cap ex) v) : ∃ ad c, v = .slice ad len c ∧ cap ≤ c ∧ len ≤ cap ∧ (ex = true → c = cap) ∧ (ad = none ↔ p = none) := by
  cases p with
  | none => simp only [VR] at h; obtain ⟨h, rfl, rfl, rfl⟩ := h; exact ⟨_, _, h, Nat.le_refl _, Nat.le_refl _, fun _ => rfl, by simp⟩
  | some q =>
    obtain ⟨b, off⟩ := q
    simp only [VR] at h
    obtain ⟨L, ad, c, _, h1, _, _, _, h2, h3, h4, _⟩ := h
    exact ⟨_, _, h1, h3, h2, h4, by simp⟩

theorem POk.lenSlice {P : Program} {o : Oper} {t elem : TypeId} {x : Operand} {ax : AX} (ho : o.op = .call { callee := .builtin .len, args := #[x], argTypes := #[t] })
    (ht : P.underlying t = some (.slice elem)) (hx : cX x = some ax) : POk P o (.len false ax) := by
  intro ι e a w v he hv
  have h1 := cX_VR hx he
  simp only [aP] at hv
  split at hv
  case h_3 => cases hv
  case h_1 => contradiction
  rename_i p sz len cap ex _ hc
  obtain rfl := Option.some.inj hv
  rw [hc] at h1
  obtain ⟨ad, c, h1, _⟩ := slice_form h1
  refine ⟨.int .i64 len, ?_, by simp [VR]⟩
  simp [execOp, ho, resolve, invoke, builtin, Builtin.len_, h1, run_underlying ht, goInt]

theorem POk.lenArr {P : Program} {o : Oper} {t elem : TypeId} {n : Nat} {x : Operand} (ho : o.op = .call { callee := .builtin .len, args := #[x], argTypes := #[t] })
    (ht : P.underlying t = some (.array n elem)) : POk P o (.move (.c (.int .i64 n))) := by
  intro ι e a w v he hv
  simp only [aP, AX.ev, Option.some.injEq] at hv
  subst hv
  refine ⟨.int .i64 n, ?_, by simp [VR]⟩
  simp [execOp, ho, resolve, invoke, builtin, Builtin.len_, run_underlying ht, goInt]

theorem POk.cap {P : Program} {o : Oper} {t elem : TypeId} {x : Operand} {ax : AX} (ho : o.op = .call { callee := .builtin .cap, args := #[x], argTypes := #[t] })
    (ht : P.underlying t = some (.slice elem)) (hx : cX x = some ax) : POk P o (.cap ax) := by
  intro ι e a w v he hv
  have h1 := cX_VR hx he
  simp only [aP] at hv
  split at hv
  case h_2 => cases hv
  rename_i p sz len cap hc
  obtain rfl := Option.some.inj hv
  rw [hc] at h1
  obtain ⟨ad, c, h1, _, _, h2, _⟩ := slice_form h1
  refine ⟨.int .i64 c, ?_, by simp [VR, h2 rfl]⟩
  simp [execOp, ho, resolve, invoke, builtin, Builtin.cap_, h1, run_underlying ht, goInt]

theorem run_fold {P : Program} {ι : Inj} (isMax : Bool) : ∀ (l : List AV) (r : List Value) (a : AV) (v : Value) (b : AV), VRL ι l r → VR ι a v → aFold isMax a l = some b → ∀ w, ∃ v', ((r.foldlM (if isMax then Builtin.max2 else Builtin.min2) v)).run P w = .ok v' w ∧ VR ι b v' := by
  intro l
  induction l with
  | nil =>
    intro r a v b hl ha hb w
    cases r with
    | nil => simp only [aFold, Option.some.injEq] at hb; subst hb; exact ⟨v, by simp, ha⟩
    | cons _ _ => simp [VRL] at hl
  | cons x l ih =>
    intro r a v b hl ha hb w
    cases r with
    | nil => simp [VRL] at hl
    | cons y r =>
      simp only [VRL] at hl
      simp only [aFold] at hb
      obtain ⟨z, hz, hb⟩ := Option.bind_eq_some_iff.1 hb
      unfold aMinMax at hz
      split at hz
      case h_2 => cases hz
      rename_i k m k' m'
      split at hz
      case isFalse => cases hz
      rename_i hk
      subst hk
      obtain rfl := Option.some.inj hz
      simp only [VR] at ha
      have hy := hl.1
      simp only [VR] at hy
      subst ha hy
      have hstep : ∀ w, ((if isMax then Builtin.max2 else Builtin.min2) (.int k m) (.int k m')).run P w = .ok (.int k (if isMax then (if m' > m then m' else m) else (if m' < m then m' else m))) w := by
        intro w
        cases isMax <;> simp [Builtin.max2, Builtin.min2]
      obtain ⟨v', hr, hv'⟩ := ih r _ (.int k (if isMax then (if m' > m then m' else m) else (if m' < m then m' else m))) b hl.2 (by simp [VR]) hb w
      exact ⟨v', by rw [List.foldlM_cons, Sem.run_bind, hstep, Result.andThen_ok, hr], hv'⟩

theorem POk.minmax {P : Program} {o : Oper} {isMax : Bool} {xs : Array Operand} {ts : Array TypeId} {al : List AX} (ho : o.op = .call { callee := .builtin (if isMax then .max else .min), args := xs, argTypes := ts }) (hx : cXs xs.toList = some al) : POk P o (.minmax isMax al) := by
  intro ι e a w v he hv
  have h1 := cXs_VR he hx
  simp only [aP] at hv
  split at hv
  case h_2 => cases hv
  rename_i x r hc
  rw [hc] at h1
  cases hxs : xs.toList with
  | nil => simp [hxs, VRL] at h1
  | cons y ys =>
    rw [hxs] at h1
    simp only [List.map_cons, VRL] at h1
    obtain ⟨v', hr, hv'⟩ := run_fold (P := P) isMax r _ x _ v h1.2 h1.1 hv w
    refine ⟨v', ?_, hv'⟩
    cases isMax
    · simp only [Bool.false_eq_true, if_false] at hr ho
      simp only [execOp, ho]
      simp [resolve, invoke, builtin, Builtin.min_, hxs, hr]
    · simp only [if_true] at hr ho
      simp only [execOp, ho]
      simp [resolve, invoke, builtin, Builtin.max_, hxs, hr]

/-! ### Comparing -/

/-- The kinds of a type's cells, where they are held against each other cell by cell. -/
def flatFields (f : TypeId → Option (List Kd)) : List Field → Nat → Option (List Kd)
  | [], _ => some []
  | fd :: r, n => match f fd.type with
    | some k => if fd.name ≠ "_" ∧ fd.offset = n then (flatFields f r (n + k.length)).map (k ++ ·) else none
    | none => none

def sized (P : Program) (u : TypeId) (k : List Kd) : Option (List Kd) := if szOf P u = some k.length then some k else none

def flatOf (P : Program) : Nat → TypeId → Option (List Kd)
  | 0, _ => none
  | d + 1, t => match P.underlying t with
    | some .bool => some [.b]
    | some (.int _) => some [.i]
    | some .string => some [.s]
    | some (.struct fs) => if P.stoodInHeld t = false then flatFields (fun u => (flatOf P d u).bind (sized P u)) fs.toList 0 else none
    | _ => none

theorem aEqKs_append : ∀ {k1 k2 : List Kd} {a b : List AV} {r : Bool}, aEqKs (k1 ++ k2) a b = some r →
    ∃ r1 r2, aEqKs k1 (a.take k1.length) (b.take k1.length) = some r1 ∧ aEqKs k2 (a.drop k1.length) (b.drop k1.length) = some r2 ∧ r = (r1 && r2)
  | [], k2, a, b, r, h => ⟨true, r, by simp [aEqKs], by simpa using h, by simp⟩
  | k :: k1, k2, [], b, r, h => by simp [aEqKs] at h
  | k :: k1, k2, _ :: _, [], r, h => by simp [aEqKs] at h
  | k :: k1, k2, x :: a, y :: b, r, h => by
    simp only [List.cons_append, aEqKs] at h
    split at h
    case h_2 => cases h
    rename_i u v h1 h2
    obtain rfl := Option.some.inj h
    obtain ⟨r1, r2, e1, e2, rfl⟩ := aEqKs_append h2
    exact ⟨u && r1, r2, by simp [aEqKs, h1, e1], by simpa using e2, by simp [Bool.and_assoc]⟩

def KdT (P : Program) (t : TypeId) : Kd → Prop
  | .b => P.underlying t = some .bool
  | .i => ∃ k, P.underlying t = some (.int k)
  | .s => P.underlying t = some .string

theorem aEqK_run {P : Program} {ι : Inj} {k : Kd} {x y : AV} {r : Bool} (h : aEqK k x y = some r) {v v' : Value} (hx : VR ι x v) (hy : VR ι y v') {t : TypeId}
    (ht : KdT P t k) (d : Nat) (w : World) :
    (Op.equalIn (d + 1) t v v').run P w = .ok r w := by
  cases k <;> cases x <;> cases y <;> simp only [aEqK] at h <;> first | (cases h; done) | skip
  · obtain rfl := Option.some.inj h
    simp only [VR] at hx hy
    subst hx hy
    simp only [KdT] at ht
    simp [Op.equalIn, run_underlying ht]
  · split at h
    case isFalse => cases h
    rename_i hk
    subst hk
    obtain rfl := Option.some.inj h
    simp only [VR] at hx hy
    subst hx hy
    simp only [KdT] at ht
    obtain ⟨k', ht⟩ := ht
    simp [Op.equalIn, run_underlying ht]
  · obtain rfl := Option.some.inj h
    simp only [VR] at hx hy
    obtain ⟨a, rfl, rfl⟩ := hx
    obtain ⟨b, rfl, rfl⟩ := hy
    simp only [KdT] at ht
    rw [run_equalIn_string w d t a b ht, ByteArray.toList_eq, ByteArray.toList_eq]

/-- The parts of two values at one place. -/
def eqAt (d : Nat) (t : TypeId) (xs ys : Array Value) (off : Nat) : Sem Bool := do
  let a ← part t xs off
  let b ← part t ys off
  Op.equalIn d t a b

theorem aEqKs_length : ∀ {ks : List Kd} {a b : List AV} {r : Bool}, aEqKs ks a b = some r → a.length = ks.length ∧ b.length = ks.length
  | [], [], [], _, _ => by simp
  | k :: ks, x :: a, y :: b, r, h => by
    simp only [aEqKs] at h
    split at h
    case h_2 => cases h
    rename_i h2
    have := aEqKs_length h2
    simp [this]
  | [], _ :: _, _, _, h => by simp [aEqKs] at h
  | [], [], _ :: _, _, h => by simp [aEqKs] at h
  | _ :: _, [], _, _, h => by simp [aEqKs] at h
  | _ :: _, _ :: _, [], _, h => by simp [aEqKs] at h

theorem eqAt_scalar {P : Program} {ι : Inj} {k : Kd} {as bs : List AV} {xs ys : Array Value} (hx : VRL ι as xs.toList) (hy : VRL ι bs ys.toList) {off : Nat} {r : Bool} (h : aEqKs [k] ((as.drop off).take 1) ((bs.drop off).take 1) = some r)
    {t : TypeId} (ht : KdT P t k) (d : Nat) (w : World) : (eqAt (d + 1) t xs ys off).run P w = .ok r w := by
  have hl := aEqKs_length h
  obtain ⟨x, hx1⟩ : ∃ x, as[off]? = some x := by
    cases ha : as[off]? with
    | some x => exact ⟨x, rfl⟩
    | none =>
      rw [List.getElem?_eq_none_iff] at ha
      have := hl.1
      rw [List.drop_eq_nil_of_le ha] at this
      simp at this
  obtain ⟨y, hy1⟩ : ∃ y, bs[off]? = some y := by
    cases ha : bs[off]? with
    | some x => exact ⟨x, rfl⟩
    | none =>
      rw [List.getElem?_eq_none_iff] at ha
      have := hl.2
      rw [List.drop_eq_nil_of_le ha] at this
      simp at this
  have d1 : (as.drop off).take 1 = [x] := by
    rw [List.drop_eq_getElem_cons (List.getElem?_eq_some_iff.1 hx1).1]
    simp [(List.getElem?_eq_some_iff.1 hx1).2]
  have d2 : (bs.drop off).take 1 = [y] := by
    rw [List.drop_eq_getElem_cons (List.getElem?_eq_some_iff.1 hy1).1]
    simp [(List.getElem?_eq_some_iff.1 hy1).2]
  rw [d1, d2] at h
  simp only [aEqKs] at h
  split at h
  case h_2 => cases h
  rename_i u z h1 h2
  obtain rfl := Option.some.inj h
  obtain rfl := Option.some.inj h2
  obtain ⟨v, hv, hv'⟩ := hx.get off x hx1
  obtain ⟨v2, hv2, hv2'⟩ := hy.get off y hy1
  have hagg : aggOf P t = some false := by
    unfold aggOf
    cases k
    · simp only [KdT] at ht; simp [ht]
    · simp only [KdT] at ht; obtain ⟨_, ht⟩ := ht; simp [ht]
    · simp only [KdT] at ht; simp [ht]
  rw [Array.getElem?_toList] at hv hv2
  simp only [eqAt, part, Sem.run_bind, run_agg hagg, Result.andThen_ok, Bool.false_eq_true, if_false, hv, hv2, Sem.run_pure]
  rw [aEqK_run (P := P) h1 hv' hv2' ht d w]
  simp

theorem eqFields_flat {P : Program} {f : TypeId → Option (List Kd)} {d : Nat} {as bs : List AV} {xs ys : Array Value}
    (hf : ∀ u ks, f u = some ks → ∀ off r, aEqKs ks ((as.drop off).take ks.length) ((bs.drop off).take ks.length) = some r → ∀ w, (eqAt d u xs ys off).run P w = .ok r w) :
    ∀ (fs : List Field) (n : Nat) (ks : List Kd), flatFields f fs n = some ks → ∀ r, aEqKs ks ((as.drop n).take ks.length) ((bs.drop n).take ks.length) = some r → ∀ w, (Op.eqFields d xs ys fs).run P w = .ok r w
  | [], n, ks, h, r, hr, w => by
    simp only [flatFields, Option.some.injEq] at h
    subst h
    simp [aEqKs] at hr
    subst hr
    simp [Op.eqFields]
  | fd :: fs, n, ks, h, r, hr, w => by
    simp only [flatFields] at h
    split at h
    case h_2 => cases h
    rename_i k hk
    split at h
    case isFalse => cases h
    rename_i hc
    obtain ⟨ks', hks, rfl⟩ := Option.map_eq_some_iff.1 h
    obtain ⟨r1, r2, e1, e2, rfl⟩ := aEqKs_append hr
    rw [List.take_take, List.take_take, Nat.min_eq_left (by simp)] at e1
    rw [List.drop_take, List.drop_take, List.drop_drop, List.drop_drop, show (k ++ ks').length - k.length = ks'.length from by simp] at e2
    have s1 := hf fd.type k hk n r1 e1 w
    have s2 := eqFields_flat hf fs (n + k.length) ks' hks r2 e2 w
    simp only [Op.eqFields]
    rw [if_pos hc.1]
    simp only [eqAt] at s1
    rw [hc.2]
    have e : ((do
      let a ← part fd.type xs n
      let b ← part fd.type ys n
      let r ← Op.equalIn d fd.type a b
      if (!r) = true then pure false else Op.eqFields d xs ys fs) : Sem Bool) = ((do
      let a ← part fd.type xs n
      let b ← part fd.type ys n
      Op.equalIn d fd.type a b) : Sem Bool) >>= fun r => if (!r) = true then pure false else Op.eqFields d xs ys fs := by
      simp
    rw [e, Sem.run_bind, s1, Result.andThen_ok]
    cases r1
    · simp
    · simpa using s2

theorem eq_flat {P : Program} {ι : Inj} : ∀ (d : Nat) (t : TypeId) (ks : List Kd), flatOf P d t = some ks → ∀ d', d ≤ d' →
    (∀ {as bs : List AV} {xs ys : Array Value}, VRL ι as xs.toList → VRL ι bs ys.toList → ∀ off r, szOf P t = some ks.length → aEqKs ks ((as.drop off).take ks.length) ((bs.drop off).take ks.length) = some r → ∀ w, (eqAt d' t xs ys off).run P w = .ok r w) ∧
    (∀ {as bs : List AV} {xs ys : Array Value}, VRL ι as xs.toList → VRL ι bs ys.toList → ∀ r, (∃ fs, P.underlying t = some (.struct fs)) → aEqKs ks as bs = some r → ∀ w, (Op.equalIn d' t (.agg xs) (.agg ys)).run P w = .ok r w)
  | 0, _, _, h, _, _ => by simp [flatOf] at h
  | d + 1, t, ks, h, d', hd => by
    obtain ⟨d', rfl⟩ : ∃ m, d' = m + 1 := ⟨d' - 1, by omega⟩
    have struct : ∀ {as bs : List AV} {xs ys : Array Value}, VRL ι as xs.toList → VRL ι bs ys.toList → ∀ r, (∃ fs, P.underlying t = some (.struct fs)) → aEqKs ks as bs = some r → ∀ w, (Op.equalIn (d' + 1) t (.agg xs) (.agg ys)).run P w = .ok r w := by
      intro as bs xs ys hx hy r ⟨fs, hu⟩ hr w
      simp only [flatOf, hu] at h
      split at h
      case isFalse => cases h
      rename_i hs
      have hfo : P.fieldsOf t = fs := by simp [Program.fieldsOf, hu]
      rw [run_equalIn_struct w d' t xs ys (by rw [hfo]; exact hu) hs, hfo]
      have hl := aEqKs_length hr
      refine eqFields_flat (as := as) (bs := bs) (f := fun u => (flatOf P d u).bind (sized P u)) ?_ fs.toList 0 ks h r (by rw [List.drop_zero, List.drop_zero, List.take_of_length_le (by omega), List.take_of_length_le (by omega)]; exact hr) w
      intro u ks' hu' off r' hr' w'
      obtain ⟨ks'', h1, h2⟩ := Option.bind_eq_some_iff.1 hu'
      unfold sized at h2
      split at h2
      case isFalse => cases h2
      rename_i hsz
      obtain rfl := Option.some.inj h2
      exact (eq_flat d u ks'' h1 d' (by omega)).1 hx hy off r' hsz hr' w'
    refine ⟨?_, struct⟩
    intro as bs xs ys hx hy off r hsz hr w
    cases hu : P.underlying t with
    | none => simp [flatOf, hu] at h
    | some ds =>
      cases ds with
      | bool =>
        simp only [flatOf, hu, Option.some.injEq] at h
        subst h
        exact eqAt_scalar hx hy hr (by exact hu) d' w
      | int k =>
        simp only [flatOf, hu, Option.some.injEq] at h
        subst h
        exact eqAt_scalar hx hy hr (by exact ⟨k, hu⟩) d' w
      | string =>
        simp only [flatOf, hu, Option.some.injEq] at h
        subst h
        exact eqAt_scalar hx hy hr (by exact hu) d' w
      | struct fs =>
        have hagg : aggOf P t = some true := by simp [aggOf, hu]
        have p1 : ∀ (zs : Array Value) w, (part t zs off).run P w = .ok (.agg (zs.extract off (off + ks.length))) w := by
          intro zs w
          simp [part, run_agg hagg, run_sz hsz]
        simp only [eqAt, Sem.run_bind, p1, Result.andThen_ok]
        refine struct (as := (as.drop off).take ks.length) (bs := (bs.drop off).take ks.length) ?_ ?_ r ⟨fs, hu⟩ hr w
        · rw [Array.toList_extract, List.extract_eq_take_drop, Nat.add_sub_cancel_left]
          exact (hx.drop off).take _
        · rw [Array.toList_extract, List.extract_eq_take_drop, Nat.add_sub_cancel_left]
          exact (hy.drop off).take _
      | _ => simp [flatOf, hu] at h

theorem POk.eqS {P : Program} {o : Oper} {neg : Bool} {t u : TypeId} {fs : Array Field} {ks : List Kd} {x y : Operand} {ax ay : AX} (ho : o.op = .binOp (if neg then .neq else .eql) t x y u) (ht : P.underlying t = some (.struct fs)) (hk : flatOf P 20 t = some ks)
    (hg : P.eqGuardType P.depth t = false) (hx : cX x = some ax) (hy : cX y = some ay) : POk P o (.eqS neg ks ax ay) := by
  intro ι e a w v he hv
  have h1 := cX_VR hx he
  have h2 := cX_VR hy he
  simp only [aP] at hv
  split at hv
  case h_2 => cases hv
  rename_i as bs hc1 hc2
  rw [hc1] at h1
  rw [hc2] at h2
  simp only [VR] at h1 h2
  obtain ⟨xs, h1, h1'⟩ := h1
  obtain ⟨ys, h2, h2'⟩ := h2
  obtain ⟨r, hr, rfl⟩ := Option.map_eq_some_iff.1 hv
  have key := (eq_flat (P := P) 20 t ks hk 10000 (by omega)).2 h1' h2' r ⟨fs, ht⟩ hr w
  have g := fun op => run_eqGuard_agg w op t x y xs ys hg
  refine ⟨.bool (if neg then !r else r), ?_, by simp [VR]⟩
  cases neg
  · simp only [Bool.false_eq_true, if_false] at ho ⊢
    simp only [execOp, ho, h1, h2]
    simp only [Sem.run_bind, g, Result.andThen_ok, run_eql_struct, key, Sem.run_pure]
  · simp only [if_true] at ho ⊢
    simp only [execOp, ho, h1, h2]
    simp only [Sem.run_bind, g, Result.andThen_ok, run_neq_struct, key, Sem.run_pure]

theorem POk.eqB {P : Program} {o : Oper} {neg : Bool} {t u : TypeId} {x y : Operand} {ax ay : AX} (ho : o.op = .binOp (if neg then .neq else .eql) t x y u) (ht : P.underlying t = some .bool)
    (hx : cX x = some ax) (hy : cX y = some ay) : POk P o (.eqB neg ax ay) := by
  intro ι e a w v he hv
  have h1 := cX_VR hx he
  have h2 := cX_VR hy he
  simp only [aP] at hv
  obtain ⟨r, hr, rfl⟩ := Option.map_eq_some_iff.1 hv
  refine ⟨.bool (if neg then !r else r), ?_, by simp [VR]⟩
  have key := aEqK_run (P := P) hr h1 h2 (t := t) (by exact ht) 9999 w
  have hb : ∃ b b', a.eval x = .bool b ∧ a.eval y = .bool b' := by
    revert hr h1 h2
    generalize ax.ev e = p
    generalize ay.ev e = q
    intro h1 h2 hr
    cases p <;> cases q <;> simp only [aEqK] at hr <;> first | (cases hr; done) | skip
    simp only [VR] at h1 h2
    exact ⟨_, _, h1, h2⟩
  obtain ⟨b, b', e1, e2⟩ := hb
  rw [e1, e2] at key
  cases neg
  · simp only [Bool.false_eq_true, if_false] at ho ⊢
    simp only [execOp, ho, e1, e2]
    simp [eqGuard_at_bool, binOp, Op.equal, Op.maxDepth, key]
  · simp only [if_true] at ho ⊢
    simp only [execOp, ho, e1, e2]
    simp [eqGuard_at_bool, binOp, Op.equal, Op.maxDepth, key]

end Go.Proofs.Ytlcjmchhnbdepaa
end

section
/- The abstract machine, fourth part: pointers and slices held against nil, structs built, what makes a block, what reads. -/
set_option linter.unusedVariables false
set_option linter.unusedSimpArgs false
namespace Go.Proofs.Ytlcjmchhnbdepaa

theorem eqP_run {P : Program} {t elem : TypeId} {n : Nat} (ht : P.underlying t = some (.pointer elem)) (hn : szOf P elem = some (n + 1)) {ι : Inj} {p q : AV} {v v' : Value} (h1 : VR ι p v) (h2 : VR ι q v') {r : Bool} (hr : aEqP p q = some r) (d : Nat) (w : World) :
    (∃ p, v = .pointer p) ∧ (Op.equalIn (d + 1) t v v').run P w = .ok r w := by
  unfold aEqP at hr
  split at hr
  · rename_i b
    obtain rfl := Option.some.inj hr
    simp only [VR] at h1
    subst h1
    cases b with
    | none => simp only [VR] at h2; subst h2; exact ⟨⟨_, rfl⟩, by simp [Op.equalIn, run_underlying ht]⟩
    | some b => obtain ⟨b, o⟩ := b; simp only [VR] at h2; obtain ⟨l, _, rfl⟩ := h2; exact ⟨⟨_, rfl⟩, by simp [Op.equalIn, run_underlying ht]⟩
  · rename_i b
    obtain rfl := Option.some.inj hr
    obtain ⟨b, o⟩ := b
    simp only [VR] at h1 h2
    obtain ⟨l, _, rfl⟩ := h1
    subst h2
    exact ⟨⟨_, rfl⟩, by simp [Op.equalIn, run_underlying ht]⟩
  · rename_i b c
    obtain ⟨b, o⟩ := b
    obtain ⟨c, o'⟩ := c
    split at hr
    case isFalse => cases hr
    rename_i hbc
    simp only at hbc
    subst hbc
    obtain rfl := Option.some.inj hr
    simp only [VR] at h1 h2
    obtain ⟨l, hl, rfl⟩ := h1
    obtain ⟨l', hl', rfl⟩ := h2
    rw [hl] at hl'
    obtain rfl := Option.some.inj hl'
    refine ⟨⟨_, rfl⟩, ?_⟩
    have e : ((⟨l.j, l.d + o, none⟩ : Addr) == ⟨l.j, l.d + o', none⟩) = (o == o') := by
      rw [Bool.eq_iff_iff]
      simp
    simp only [Op.equalIn, Sem.run_bind, run_underlying ht, Result.andThen_ok, run_sz hn, ne_eq, Nat.add_eq_zero_iff, Nat.succ_ne_self, and_false, not_false_eq_true, if_true]
    simp [sameAddr, e]
  · cases hr

theorem POk.eqP {P : Program} {o : Oper} {neg : Bool} {t u elem : TypeId} {n : Nat} {x y : Operand} {ax ay : AX} (ho : o.op = .binOp (if neg then .neq else .eql) t x y u) (ht : P.underlying t = some (.pointer elem)) (hn : szOf P elem = some (n + 1))
    (hx : cX x = some ax) (hy : cX y = some ay) : POk P o (.eqP neg ax ay) := by
  intro ι e a w v he hv
  have h1 := cX_VR hx he
  have h2 := cX_VR hy he
  simp only [aP] at hv
  obtain ⟨r, hr, rfl⟩ := Option.map_eq_some_iff.1 hv
  refine ⟨.bool (if neg then !r else r), ?_, by simp [VR]⟩
  obtain ⟨⟨p, hp⟩, key⟩ := eqP_run (P := P) ht hn h1 h2 hr 9999 w
  cases neg
  · simp only [Bool.false_eq_true, if_false] at ho ⊢
    simp only [execOp, ho]
    rw [hp] at key ⊢
    simp [eqGuard_at_pointer, binOp, Op.equal, Op.maxDepth, key]
  · simp only [if_true] at ho ⊢
    simp only [execOp, ho]
    rw [hp] at key ⊢
    simp [eqGuard_at_pointer, binOp, Op.equal, Op.maxDepth, key]

theorem eqN_run {P : Program} {t elem : TypeId} (ht : P.underlying t = some (.slice elem)) {ι : Inj} {p q : AV} {v v' : Value} (h1 : VR ι p v) (h2 : VR ι q v') {r : Bool} (hr : aEqN p q = some r) (d : Nat) (w : World) :
    (∃ p n c, v = .slice p n c) ∧ (Op.equalIn (d + 1) t v v').run P w = .ok r w := by
  unfold aEqN at hr
  split at hr
  · rename_i b _ _ _ _
    obtain rfl := Option.some.inj hr
    simp only [VR] at h1
    obtain ⟨rfl, _⟩ := h1
    obtain ⟨ad, c, rfl, _, _, _, hnn⟩ := slice_form h2
    refine ⟨⟨_, _, _, rfl⟩, ?_⟩
    have : ad.isNone = b.isNone := by cases ad <;> cases b <;> simp_all
    simp [Op.equalIn, run_underlying ht, this]
  · rename_i b _ _ _ _ _ _ _ _
    obtain rfl := Option.some.inj hr
    simp only [VR] at h2
    obtain ⟨rfl, _⟩ := h2
    obtain ⟨ad, c, rfl, _, _, _, hnn⟩ := slice_form h1
    refine ⟨⟨_, _, _, rfl⟩, ?_⟩
    cases ad with
    | none => simp at hnn
    | some ad => simp [Op.equalIn, run_underlying ht]
  · cases hr

theorem POk.eqN {P : Program} {o : Oper} {neg : Bool} {t u elem : TypeId} {x y : Operand} {ax ay : AX} (ho : o.op = .binOp (if neg then .neq else .eql) t x y u) (ht : P.underlying t = some (.slice elem))
    (hx : cX x = some ax) (hy : cX y = some ay) : POk P o (.eqN neg ax ay) := by
  intro ι e a w v he hv
  have h1 := cX_VR hx he
  have h2 := cX_VR hy he
  simp only [aP] at hv
  obtain ⟨r, hr, rfl⟩ := Option.map_eq_some_iff.1 hv
  refine ⟨.bool (if neg then !r else r), ?_, by simp [VR]⟩
  obtain ⟨⟨p, n, c, hp⟩, key⟩ := eqN_run (P := P) ht h1 h2 hr 9999 w
  cases neg
  · simp only [Bool.false_eq_true, if_false] at ho ⊢
    simp only [execOp, ho]
    rw [hp] at key ⊢
    simp [eqGuard_at_slice, binOp, Op.equal, Op.maxDepth, key]
  · simp only [if_true] at ho ⊢
    simp only [execOp, ho]
    rw [hp] at key ⊢
    simp [eqGuard_at_slice, binOp, Op.equal, Op.maxDepth, key]

/-! ### Structs and arrays built -/

theorem foldl_seg : ∀ (l : List Value) (k off : Nat) (cells : Array Value), off + k + l.length ≤ cells.size →
    ((l.zipIdx k).foldl (fun cs (c, j) => cs.setIfInBounds (off + j) c) cells).toList = cells.toList.take (off + k) ++ l ++ cells.toList.drop (off + k + l.length)
  | [], k, off, cells, h => by simp
  | x :: l, k, off, cells, h => by
    simp only [List.zipIdx_cons, List.foldl_cons]
    have hl : (x :: l).length = l.length + 1 := rfl
    rw [foldl_seg l (k + 1) off _ (by simp; omega)]
    simp only [Array.toList_setIfInBounds, List.length_cons]
    have e1 : (cells.toList.set (off + k) x).take (off + (k + 1)) = cells.toList.take (off + k) ++ [x] := by
      rw [show off + (k + 1) = off + k + 1 from by omega, List.take_add_one]
      simp [List.take_set_of_le, show off + k < cells.size from by omega]
    have e2 : (cells.toList.set (off + k) x).drop (off + (k + 1) + l.length) = cells.toList.drop (off + k + (l.length + 1)) := by
      rw [List.drop_set_of_lt (by omega)]
      congr 1; omega
    rw [e1, e2]
    simp

theorem fill_VR {ι : Inj} (place : Nat → Option (Nat × Nat)) : ∀ (parts : List (Nat × Value)) (ap : List (Nat × Nat × AV)) (cells : Array Value) (cs cs' : List AV), VRL ι cs cells.toList → (∀ c, c ∈ cs → c.isCell = true) →
    ap.length = parts.length → (∀ (i : Nat) (p : Nat × Nat × AV) (q : Nat × Value), ap[i]? = some p → parts[i]? = some q → place q.1 = some (p.1, p.2.1) ∧ VR ι p.2.2 q.2) → aFill cs ap = some cs' →
    ∃ cells', Instr.fill place cells parts = some cells' ∧ VRL ι cs' cells'.toList ∧ (∀ c, c ∈ cs' → c.isCell = true)
  | [], [], cells, cs, cs', h, hc, _, _, ha => by
    simp only [aFill, Option.some.injEq] at ha
    subst ha
    exact ⟨cells, rfl, h, hc⟩
  | [], _ :: _, _, _, _, _, _, hl, _, _ => by simp at hl
  | _ :: _, [], _, _, _, _, _, hl, _, _ => by simp at hl
  | (i, v) :: parts, (off, n, a) :: ap, cells, cs, cs', h, hc, hl, hp, ha => by
    simp only [aFill] at ha
    split at ha
    case h_2 => cases ha
    rename_i l hcells
    split at ha
    case isFalse => cases ha
    rename_i hcond
    obtain ⟨hpl, hrel⟩ := hp 0 (off, n, a) (i, v) rfl rfl
    obtain ⟨hvc, hall⟩ := cells?_VR hcells hrel
    have hlen : v.cells.size = n := by have := hvc.length; simp at this; omega
    have hcl : cs.length = cells.size := by have := h.length; simpa using this
    simp only [Instr.fill]
    simp only at hpl
    rw [hpl]
    simp only
    rw [if_neg (by rw [hlen]; simp; omega)]
    have hseg : (v.cells.zipIdx.foldl (fun cs (c, j) => cs.setIfInBounds (off + j) c) cells).toList = cells.toList.take off ++ v.cells.toList ++ cells.toList.drop (off + n) := by
      have := foldl_seg v.cells.toList 0 off cells (by simp; omega)
      rw [← Array.foldl_toList, Array.toList_zipIdx]
      simpa [hlen] using this
    refine fill_VR place parts ap _ _ cs' ?_ ?_ (by simpa using hl) (fun j p q h1 h2 => hp (j + 1) p q (by simpa using h1) (by simpa using h2)) ha
    · rw [hseg]
      exact ((h.take off).append hvc).append (by have := h.drop (off + n); simpa [hcond.1] using this)
    · intro c hcm
      rcases List.mem_append.1 hcm with hcm | hcm
      · rcases List.mem_append.1 hcm with hcm | hcm
        · exact hc c (List.mem_of_mem_take hcm)
        · exact hall c hcm
      · exact hc c (List.mem_of_mem_drop hcm)

/-- The parts of a struct, an array, a slice's literal: place, size, operand. -/
def cParts (place : Nat → Option (Nat × Nat)) : List (Nat × Operand) → Option (List (Nat × Nat × AX))
  | [] => some []
  | (i, x) :: r => match place i, cX x, cParts place r with
    | some p, some ax, some l => some ((p.1, p.2, ax) :: l)
    | _, _, _ => none

theorem cParts_VR {place : Nat → Option (Nat × Nat)} {ι : Inj} {e : Env} {a : Act} (he : VRL ι e a.tmps.toList) : ∀ {l : List (Nat × Operand)} {al : List (Nat × Nat × AX)}, cParts place l = some al →
    al.length = l.length ∧ ∀ (i : Nat) (p : Nat × Nat × AX) (q : Nat × Operand), al[i]? = some p → l[i]? = some q → place q.1 = some (p.1, p.2.1) ∧ VR ι (p.2.2.ev e) (a.eval q.2)
  | [], al, h => by
    simp only [cParts, Option.some.injEq] at h
    subst h
    simp
  | (i, x) :: r, al, h => by
    simp only [cParts] at h
    split at h
    case h_2 => cases h
    rename_i p ax l h1 h2 h3
    obtain rfl := Option.some.inj h
    obtain ⟨g1, g2⟩ := cParts_VR he h3
    refine ⟨by simp [g1], fun j p' q hj hq => ?_⟩
    cases j with
    | zero =>
      simp at hj hq
      subst hj hq
      exact ⟨by simp [h1], cX_VR h2 he⟩
    | succ j => exact g2 j p' q (by simpa using hj) (by simpa using hq)

def placeOf (P : Program) (t : TypeId) : Nat → Option (Nat × Nat) :=
  match P.underlying t with
  | some (.array _ e) => fun i => (szOf P e).map fun n => (i * n, n)
  | some (.struct fs) => fun i => (fs[i]?).bind fun f => (szOf P f.type).map fun n => (f.offset, n)
  | _ => fun _ => none

def buildable (P : Program) (t : TypeId) : Bool :=
  match P.underlying t with
  | some (.array _ e) => (szOf P e).isSome
  | some (.struct fs) => fs.toList.all fun f => (szOf P f.type).isSome
  | _ => false

theorem places_all {P : Program} : ∀ (fs : List Field), (fs.all fun f => (szOf P f.type).isSome) = true →
    ∃ places : List (Nat × Nat), fs.mapM (fun (f : Field) => (P.info? f.type).map fun i => (f.offset, i.size)) = some places ∧ ∀ i : Nat, places[i]? = (fs[i]?).bind fun (f : Field) => (szOf P f.type).map fun n => (f.offset, n)
  | [], _ => ⟨[], by simp, by simp⟩
  | f :: fs, h => by
    simp only [List.all_cons, Bool.and_eq_true] at h
    obtain ⟨places, h1, h2⟩ := places_all fs h.2
    obtain ⟨n, hn⟩ := Option.isSome_iff_exists.1 h.1
    have hn' := hn
    unfold szOf at hn'
    obtain ⟨i, hi, rfl⟩ := Option.map_eq_some_iff.1 hn'
    refine ⟨(f.offset, i.size) :: places, by simp [List.mapM_cons, hi, h1], fun j => ?_⟩
    cases j with
    | zero => simp [hn]
    | succ j => simpa using h2 j

theorem POk.build {P : Program} {o : Oper} {t : TypeId} {parts : Array (Nat × Operand)} {zero : List AV} {al : List (Nat × Nat × AX)} (ho : o.op = .build t parts) (hb : buildable P t = true) (hz : zeroOf P t = some zero)
    (hp : cParts (placeOf P t) parts.toList = some al) : POk P o (.build zero al) := by
  intro ι e a w v he hv
  simp only [aP] at hv
  obtain ⟨cs, hcs, rfl⟩ := Option.map_eq_some_iff.1 hv
  obtain ⟨g1, g2⟩ := cParts_VR he hp
  have hz' := hz
  unfold zeroOf at hz'
  split at hz'
  case h_2 => cases hz'
  rename_i z hz2
  obtain ⟨it, hit, hz3⟩ := Option.bind_eq_some_iff.1 hz2
  have hzv := ofScalars_VR ι hz'
  obtain ⟨cells', hf, hr, _⟩ := fill_VR (ι := ι) (placeOf P t) (parts.toList.map fun p => (p.1, a.eval p.2)) (al.map fun p => (p.1, p.2.1, p.2.2.ev e)) z.cells zero cs hzv.1 hzv.2 (by simp [g1]) (fun i p q h1 h2 => by
    simp only [List.getElem?_map, Option.map_eq_some_iff] at h1 h2
    obtain ⟨p', hp', rfl⟩ := h1
    obtain ⟨q', hq', rfl⟩ := h2
    exact g2 i p' q' hp' hq') hcs
  refine ⟨.agg cells', ?_, by simp only [VR]; exact ⟨_, rfl, hr⟩⟩
  have hbuilt : P.built t (parts.map fun p => (p.1, a.eval p.2)).toList = some cells' := by
    unfold Program.built
    unfold buildable at hb
    unfold placeOf at hf
    cases hu : P.underlying t with
    | none => simp [hu] at hb
    | some ds =>
      cases ds with
      | array n el =>
        rw [hu] at hb hf
        simp only at hb hf
        obtain ⟨m, hm⟩ := Option.isSome_iff_exists.1 hb
        have hm' := hm
        unfold szOf at hm'
        obtain ⟨ie, hie, rfl⟩ := Option.map_eq_some_iff.1 hm'
        simp only [hm, Option.map_some] at hf
        simp only [hit, hz3, hie]
        simpa using hf
      | struct fs =>
        rw [hu] at hb hf
        simp only at hb hf
        obtain ⟨places, e1, e2⟩ := places_all fs.toList hb
        simp only [hit, hz3, e1]
        have : (fun (i : Nat) => places.toArray[i]?) = fun (i : Nat) => (fs[i]?).bind fun (f : Field) => (szOf P f.type).map fun n => (f.offset, n) := by
          funext i
          simpa using e2 i
        rw [this]
        simpa using hf
      | _ => simp [hu] at hb
  have := run_build (P := P) w t (parts.map fun p => (p.1, a.eval p.2)) cells' hbuilt
  simp only [execOp, ho]
  simp [this]

end Go.Proofs.Ytlcjmchhnbdepaa
end

section
/- The abstract machine, fifth part: operations that make a block, operations that read. -/
set_option linter.unusedVariables false
set_option linter.unusedSimpArgs false
namespace Go.Proofs.Ytlcjmchhnbdepaa

/-- One block more; all else is as it was. -/
structure Made (w w' : World) (ob : Obj) : Prop where
  size : w'.heap.size = w.heap.size + 1
  old : ∀ j, j < w.heap.size → w'.heap[j]? = w.heap[j]?
  new : w'.heap[w.heap.size]? = some ob
  os : w'.os = w.os
  tape : w'.tape = w.tape
  output : w'.output = w.output

theorem Made.alloc (w : World) (ob : Obj) : Made w (w.alloc ob) ob := by
  refine ⟨by simp, fun j hj => Below.heap_alloc' w ob j hj, by simp [World.alloc, -World.alloc_eq], rfl, rfl, rfl⟩
 where
  Below.heap_alloc' (w : World) (o : Obj) (k : Nat) (h : k < w.heap.size) : (w.alloc o).heap[k]? = w.heap[k]? := by
    show (w.heap.push o)[k]? = _
    rw [Array.getElem?_push, if_neg (by omega)]

theorem Made.drew_alloc (w : World) (ob : Obj) : Made w (w.drew.alloc ob) ob :=
  let h := Made.alloc w.drew ob
  ⟨h.size, h.old, h.new, h.os, h.tape, h.output⟩

def KOk (P : Program) (o : Oper) (k : KOp) : Prop :=
  ∀ (ι : Inj) (e : Env) (a : Act) (w : World) (blk : Blk) (mk : Mk), VRL ι e a.tmps.toList → aK k e = some (blk, mk) →
    ∃ v' w' ob N, (execOp a.eval o).run P w = .ok (.value v') w' ∧ blk.own = true ∧ Made w w' ob ∧
      ∀ id ι', ι.Le ι' → ι' id = some ⟨w.heap.size, 0, N⟩ → BR ι' blk ⟨w.heap.size, 0, N⟩ ob ∧ VR ι' (mk.val id) v'

def LOk (P : Program) (o : Oper) (l : LOp) : Prop :=
  ∀ (ι : Inj) (M : Heap) (e : Env) (a : Act) (w : World) (v : AV), R ι M w → VRL ι e a.tmps.toList → aL l e M = some v → ∃ v', (execOp a.eval o).run P w = .ok (.value v') w ∧ VR ι v v'

theorem BR.new {ι : Inj} {cs : List AV} {l : Array Value} {slack : Bool} {e : TypeId} {fz : Nat × Nat} {j : Nat} (h : ∃ r, VRL ι cs (l.toList.take r) ∧ r ≤ l.size ∧ (slack = false → r = l.size)) (hc : ∀ c, c ∈ cs → c.isCell = true) (hf : (fz.1 = fz.2 ∨ l.size ≤ fz.1) ∧ (slack = false → fz.1 = fz.2)) :
    BR ι (.cells cs false slack) ⟨j, 0, l.size⟩ (.cells l e fz) := by
  obtain ⟨r, hr, hle, hs⟩ := h
  have hlen := hr.length
  simp at hlen
  refine ⟨l, e, fz, rfl, by simp, by simp only; omega, fun h => by simp only; rw [hlen, hs h]; simp, fun i a hi => ?_, fun _ => hf⟩
  obtain ⟨v, hv, hr'⟩ := hr.get i a hi
  refine ⟨v, ?_, hc a (List.mem_of_getElem? hi), hr'⟩
  simp only [List.getElem?_take] at hv
  split at hv
  case isFalse => cases hv
  simpa using hv

theorem BR.new_all {ι : Inj} {cs : List AV} {l : Array Value} {e : TypeId} {j : Nat} (h : VRL ι cs l.toList) (hc : ∀ c, c ∈ cs → c.isCell = true) : BR ι (.cells cs false false) ⟨j, 0, l.size⟩ (.cells l e (0, 0)) :=
  BR.new ⟨l.size, by rw [List.take_of_length_le (by simp)]; exact h, Nat.le_refl _, fun _ => rfl⟩ hc ⟨.inl rfl, fun _ => rfl⟩

theorem reps_length : ∀ (n : Nat) (z : List AV), (reps n z).length = n * z.length
  | 0, z => by simp [reps]
  | n + 1, z => by simp [reps, reps_length n z, Nat.add_mul, Nat.add_comm]

theorem reps_get (z : List AV) : ∀ (n i : Nat), i < n * z.length → (reps n z)[i]? = z[i % z.length]?
  | 0, i, h => by simp at h
  | n + 1, i, h => by
    simp only [reps]
    rw [List.getElem?_append]
    split
    · rename_i hi
      rw [Nat.mod_eq_of_lt hi]
    · rename_i hi
      rw [reps_get z n (i - z.length) (by rw [Nat.add_mul] at h; omega)]
      congr 1
      have : i = (i - z.length) + z.length := by omega
      rw [this, Nat.add_mod_right]
      simp

theorem reps_mem {n : Nat} {z : List AV} {c : AV} (h : c ∈ reps n z) : c ∈ z := by
  induction n with
  | zero => simp [reps] at h
  | succ n ih =>
    simp only [reps, List.mem_append] at h
    exact h.elim id ih

theorem reps_VR {ι : Inj} {z : List AV} {v : Array Value} (h : VRL ι z v.toList) (n : Nat) : VRL ι (reps n z) (madeCells v (n * v.size)).toList := by
  have hl : z.length = v.size := by have := h.length; simpa using this
  refine VRL.of_get (by simp [reps_length, madeCells, hl]) fun i a x ha hx => ?_
  have hi : i < n * z.length := by
    have := (List.getElem?_eq_some_iff.1 ha).1
    rwa [reps_length] at this
  rw [reps_get z n i hi] at ha
  obtain ⟨y, hy, hr⟩ := h.get _ a ha
  simp only [madeCells, Array.toList_map, Array.toList_range, List.getElem?_map, List.getElem?_range (show i < n * v.size from by rw [← hl]; exact hi), Option.map_some, Option.some.injEq] at hx
  subst hx
  rw [hl, Array.getElem?_toList] at hy
  rw [getElem!_def, hy]
  exact hr

theorem KOk.alloc {P : Program} {o : Oper} {t : TypeId} {zero : List AV} (ho : o.op = .alloc t) (hz : zeroOf P t = some zero) : KOk P o (.alloc zero) := by
  intro ι e a w blk mk he h
  simp only [aK, Option.some.injEq, Prod.mk.injEq] at h
  obtain ⟨rfl, rfl⟩ := h
  obtain ⟨z, hz1, hz2, hz3⟩ := run_zero (P := P) hz w
  refine ⟨.pointer (some ⟨w.heap.size, 0, none⟩), w.alloc (.cells z.cells t), _, z.cells.size, ?_, rfl, Made.alloc _ _, fun id ι' hle hid => ⟨BR.new_all (hz2 ι') hz3, ?_⟩⟩
  · simp only [execOp, ho]
    simp [Instr.alloc, hz1, newVar, newRow]
  · simp only [Mk.val, VR]
    exact ⟨_, hid, rfl⟩

theorem KOk.box {P : Program} {o : Oper} {t : TypeId} {x : Operand} {ax : AX} (ho : o.op = .box t x) (hx : cX x = some ax) : KOk P o (.box ax) := by
  intro ι e a w blk mk he h
  have h1 := cX_VR hx he
  simp only [aK] at h
  obtain ⟨cs, hcs, h⟩ := Option.map_eq_some_iff.1 h
  simp only [Prod.mk.injEq] at h
  obtain ⟨rfl, rfl⟩ := h
  obtain ⟨g1, g2⟩ := cells?_VR hcs h1
  refine ⟨.pointer (some ⟨w.heap.size, 0, none⟩), w.alloc (.cells (a.eval x).cells t), _, (a.eval x).cells.size, ?_, rfl, Made.alloc _ _, fun id ι' hle hid => ⟨BR.new_all (g1.mono hle) g2, ?_⟩⟩
  · simp only [execOp, ho]
    simp [Instr.box, newVar, newRow]
  · simp only [Mk.val, VR]
    exact ⟨_, hid, rfl⟩

theorem KOk.buildSlice {P : Program} {o : Oper} {t elem : TypeId} {len n : Nat} {parts : Array (Nat × Operand)} {zero : List AV} {al : List (Nat × AX)} (ho : o.op = .buildSlice t len parts) (ht : P.underlying t = some (.slice elem)) (hn : szOf P elem = some n) (hn0 : 0 < n)
    (hlen : len * n ≤ 16777216) (hz : zeroOf P elem = some zero) (hzl : zero.length = n) (hp : cParts (fun i => some (i * n, n)) parts.toList = some (al.map fun p => (p.1 * n, n, p.2))) : KOk P o (.buildSlice n len zero al) := by
  intro ι e a w blk mk he h
  simp only [aK] at h
  obtain ⟨cs, hcs, h⟩ := Option.map_eq_some_iff.1 h
  simp only [Prod.mk.injEq] at h
  obtain ⟨rfl, rfl⟩ := h
  obtain ⟨g1, g2⟩ := cParts_VR he hp
  obtain ⟨z, hz1, hz2, hz3⟩ := run_zero (P := P) hz w
  have hzs : z.cells.size = n := by have := (hz2 ι).length; simp at this; omega
  have hbase : VRL ι (reps len zero) (madeCells (if len * n = 0 then #[] else z.cells) (len * n)).toList := by
    split
    · rename_i h0
      have : len = 0 := by
        rcases Nat.mul_eq_zero.1 h0 with h | h
        · exact h
        · omega
      subst this
      simp [reps, madeCells, VRL, Array.range_zero']
    · have := reps_VR (hz2 ι) len
      rwa [hzs] at this
  obtain ⟨cells', hf, hr, hc⟩ := fill_VR (ι := ι) (fun i => some (i * n, n)) (parts.toList.map fun p => (p.1, a.eval p.2)) (al.map fun p => (p.1 * n, n, p.2.ev e)) (madeCells (if len * n = 0 then #[] else z.cells) (len * n)) _ cs hbase (fun c hc => hz3 c (reps_mem hc)) (by simpa using g1) (fun i p q h1 h2 => by
    simp only [List.getElem?_map, Option.map_eq_some_iff] at h1 h2
    obtain ⟨p', hp', rfl⟩ := h1
    obtain ⟨q', hq', rfl⟩ := h2
    exact g2 i (p'.1 * n, n, p'.2) q' (by simp [hp']) hq') hcs
  have hsz : cells'.size = len * n := by
    have h1 := hr.length
    have h2 := hbase.length
    have h3 := aFill_length hcs
    simp only [Array.length_toList] at h1 h2
    rw [size_madeCells] at h2
    omega
  refine ⟨.slice (some ⟨w.heap.size, 0, none⟩) len len, w.alloc (.cells cells' elem), _, cells'.size, ?_, rfl, Made.alloc _ _, fun id ι' hle hid => ⟨BR.new_all (hr.mono hle) hc, ?_⟩⟩
  · simp only [execOp, ho]
    have hng : ¬ (len * n > 2 ^ 24) := by omega
    by_cases h0 : len * n = 0
    · rw [if_pos h0, h0, show madeCells (#[] : Array Value) 0 = #[] from by simp [madeCells, Array.range_zero']] at hf
      simp [Instr.buildSlice, run_underlying ht, run_sz hn, hng, h0, newRow, hf, Array.range_zero']
    · rw [if_neg h0] at hf
      simp only [madeCells] at hf
      simp [Instr.buildSlice, run_underlying ht, run_sz hn, hng, h0, newRow, hf, hz1]
  · simp only [Mk.val, VR]
    exact ⟨_, _, _, hid, rfl, .inr rfl, .inr rfl, .inr rfl, Nat.le_refl _, Nat.le_refl _, fun _ => rfl, by simp [hsz], hn0⟩
 where
  aFill_length : ∀ {cs : List AV} {parts : List (Nat × Nat × AV)} {cs' : List AV}, aFill cs parts = some cs' → cs'.length = cs.length
  | cs, [], cs', h => by simp only [aFill, Option.some.injEq] at h; rw [h]
  | cs, (off, n, v) :: r, cs', h => by
    simp only [aFill] at h
    split at h
    case h_2 => cases h
    split at h
    case isFalse => cases h
    rename_i l _ hc
    rw [aFill_length h]
    simp
    omega

theorem KOk.makeSlice {P : Program} {o : Oper} {t elem : TypeId} {i : TypeInfo} {l c : Operand} {zero : List AV} {al ac : AX} (ho : o.op = .makeSlice t l c) (ht : P.underlying t = some (.slice elem)) (hi : P.info? elem = some i) (hn0 : 0 < i.size)
    (hz : zeroOf P elem = some zero) (hzl : zero.length = i.size) (hl : cX l = some al) (hc : cX c = some ac) : KOk P o (.makeSlice i.size i.bytes zero al ac) := by
  intro ι e a w blk mk he h
  have h1 := cX_VR hl he
  have h2 := cX_VR hc he
  simp only [aK] at h
  unfold aMakeSlice at h
  split at h
  case h_2 => cases h
  rename_i kl lv kc cv hc1 hc2
  rw [hc1] at h1
  rw [hc2] at h2
  simp only [VR] at h1 h2
  split at h
  case isFalse => cases h
  rename_i hcond
  obtain ⟨c1, c2, c3, c4⟩ := hcond
  simp only [Option.some.injEq, Prod.mk.injEq] at h
  obtain ⟨rfl, rfl⟩ := h
  have hz' := hz
  unfold zeroOf at hz'
  split at hz'
  case h_2 => cases hz'
  rename_i z hz2
  obtain ⟨it, hit, hz3⟩ := Option.bind_eq_some_iff.1 hz2
  rw [hi] at hit
  obtain rfl := Option.some.inj hit
  have hzv := fun ι => ofScalars_VR ι hz'
  have hzs : z.cells.size = i.size := by have := (hzv ι).1.length; simp at this; omega
  have hb : (i.bytes : Int) * cv ≤ 281474976710656 := by
    have : cv = (cv.toNat : Int) := by omega
    rw [this, ← Int.natCast_mul]
    omega
  have hrun := run_make (P := P) w t elem i z ht hi hz3 kl kc lv cv c1 c2 hb (by omega)
  refine ⟨.slice (some ⟨w.heap.size, 0, none⟩) lv.toNat cv.toNat, w.alloc (.cells (madeCells z.cells (cv.toNat * i.size)) elem), _, (madeCells z.cells (cv.toNat * i.size)).size, ?_, rfl, Made.alloc _ _, fun id ι' hle hid => ⟨BR.new_all ?_ (fun c hc => (hzv ι).2 c (reps_mem hc)), ?_⟩⟩
  · simp only [execOp, ho, h1, h2]
    simp [hrun]
  · have := reps_VR (hzv ι').1 cv.toNat
    rwa [hzs] at this
  · simp only [Mk.val, VR]
    exact ⟨_, _, _, hid, rfl, .inr rfl, .inr rfl, .inr rfl, by omega, Nat.le_refl _, fun _ => rfl, by simp [size_madeCells], hn0⟩

theorem KOk.strBytes {P : Program} {o : Oper} {s d elem : TypeId} {x : Operand} {ax : AX} (ho : o.op = .convert s d x) (hs : P.underlying s = some .string) (hd : P.underlying d = some (.slice elem)) (he8 : P.underlying elem = some (.int .u8)) (hx : cX x = some ax) : KOk P o (.strBytes ax) := by
  intro ι e a w blk mk he h
  have h1 := cX_VR hx he
  simp only [aK] at h
  split at h
  case h_2 => cases h
  rename_i str hc
  rw [hc] at h1
  simp only [VR] at h1
  obtain ⟨b, h1, rfl⟩ := h1
  split at h
  case isFalse => cases h
  rename_i hlen
  simp only [Option.some.injEq, Prod.mk.injEq] at h
  obtain ⟨rfl, rfl⟩ := h
  have hbl : b.data.toList.length = b.size := by simp
  have hcap : b.size ≤ grownCap w b.size 0 elem := by
    simp only [grownCap, Question.cut]
    omega
  have hsz : (Lib.bytesCells w elem b).size = grownCap w b.size 0 elem := by
    simp only [Lib.bytesCells, Array.size_append, Array.size_map, Array.size_replicate]
    have : b.data.size = b.size := rfl
    omega
  refine ⟨.slice (some ⟨w.heap.size, 0, none⟩) b.size (grownCap w b.size 0 elem), Lib.bytesWorld w elem b, _, (Lib.bytesCells w elem b).size, ?_, rfl, ⟨Lib.bytesWorld_size w elem b, Lib.bytesWorld_at_old w elem b, Lib.bytesWorld_at_new w elem b, rfl, rfl, rfl⟩, fun id ι' hle hid => ⟨BR.new ⟨b.size, ?_, by omega, fun h => by cases h⟩ ?_ ⟨.inr (Nat.le_refl _), fun h => by cases h⟩, ?_⟩⟩
  · simp only [execOp, ho, h1]
    simp [Lib.run_convert_string_bytes w s d elem b hs hd he8]
  · have e : (Lib.bytesCells w elem b).toList.take b.size = b.data.toList.map fun c => Value.int .u8 c.toNat := by
      simp only [Lib.bytesCells, Array.toList_append, Array.toList_map]
      rw [List.take_append_of_le_length (by simp), List.take_of_length_le (by simp)]
    rw [e]
    refine VRL.of_get (by simp) fun i x y hx hy => ?_
    simp only [List.getElem?_map, Option.map_eq_some_iff] at hx hy
    obtain ⟨u, hu, rfl⟩ := hx
    obtain ⟨u', hu', rfl⟩ := hy
    rw [hu] at hu'
    obtain rfl := Option.some.inj hu'
    simp [VR]
  · intro c hc
    obtain ⟨u, _, rfl⟩ := List.mem_map.1 hc
    rfl
  · simp only [Mk.val, VR]
    exact ⟨_, _, _, hid, by rw [hbl], .inr rfl, .inr rfl, .inr rfl, Nat.le_refl _, by omega, (fun h => by cases h), by simp [hsz], by omega⟩

theorem KOk.makeMap {P : Program} {o : Oper} {t : TypeId} (ho : o.op = .makeMap t none) : KOk P o .makeMap := by
  intro ι e a w blk mk he h
  simp only [aK, Option.some.injEq, Prod.mk.injEq] at h
  obtain ⟨rfl, rfl⟩ := h
  refine ⟨.map (some w.heap.size), w.alloc (.map #[] 0), _, 0, ?_, rfl, Made.alloc _ _, fun id ι' hle hid => ⟨⟨#[], 0, rfl, by simp [ERL]⟩, ?_⟩⟩
  · simp only [execOp, ho]
    simp [Instr.makeMap]
  · simp only [Mk.val, VR]
    exact ⟨_, hid, rfl⟩

/-! ### What reads -/

theorem loadCells_run {P : Program} {ι : Inj} {M : Heap} {w : World} (r : R ι M w) {b o n : Nat} {cs : List AV} (h : M.read b o n = some cs) : ∃ l vs, ι b = some l ∧ (loadCells ⟨l.j, l.d + o, none⟩ n).run P w = .ok vs w ∧ VRL ι cs vs.toList ∧ ∀ a, a ∈ cs → a.isCell = true := by
  obtain ⟨hlen, hc, l, vs, hl, hr, hcell⟩ := r.read h
  refine ⟨l, vs.toArray, hl, ?_, by simpa using hr, hc⟩
  have hvl : vs.length = n := by rw [← hr.length, hlen]
  rw [← hvl]
  exact run_loadCells_list w _ vs fun j v hv => by rw [add_none]; exact hcell j v hv

theorem loadVar_run {P : Program} {ι : Inj} {M : Heap} {w : World} (r : R ι M w) {t : TypeId} {g : Bool} {n : Nat} (hg : aggOf P t = some g) (hn : szOf P t = some n) {p v : AV} {pv : Value} (hp : VR ι p pv) (h : aLoad g n p M = some v) :
    ∃ ad v', pv = .pointer (some ad) ∧ (loadVar t ad).run P w = .ok v' w ∧ VR ι v v' := by
  unfold aLoad at h
  split at h
  case h_2 => cases h
  rename_i b o
  simp only [VR] at hp
  obtain ⟨l, hl, rfl⟩ := hp
  cases g with
  | true =>
    simp only [if_true] at h
    obtain ⟨cs, hcs, rfl⟩ := Option.map_eq_some_iff.1 h
    obtain ⟨l', vs, hl', hrun, hr, _⟩ := loadCells_run (P := P) r hcs
    rw [hl] at hl'
    obtain rfl := Option.some.inj hl'
    refine ⟨_, .agg vs, rfl, ?_, by simp only [VR]; exact ⟨_, rfl, hr⟩⟩
    simp [loadVar, run_agg hg, run_sz hn, hrun]
  | false =>
    simp only [Bool.false_eq_true, if_false] at h
    split at h
    case h_2 => cases h
    rename_i c ro sl hb
    obtain ⟨l', ob, hl', hob, cs, elem, fz, rfl, _, _, _, h5, _⟩ := r.blk b _ hb
    rw [hl] at hl'
    obtain rfl := Option.some.inj hl'
    obtain ⟨v', hv', _, hr⟩ := h5 o v h
    refine ⟨_, v', rfl, ?_, hr⟩
    simp [loadVar, run_agg hg, cell_of hob hv']

theorem LOk.load {P : Program} {o : Oper} {t : TypeId} {g : Bool} {n : Nat} {x : Operand} {ax : AX} (ho : o.op = .load t x) (hg : aggOf P t = some g) (hn : szOf P t = some n) (hx : cX x = some ax) : LOk P o (.load g n ax) := by
  intro ι M e a w v r he h
  simp only [aL] at h
  obtain ⟨ad, v', h1, h2, h3⟩ := loadVar_run (P := P) r hg hn (cX_VR hx he) h
  refine ⟨v', ?_, h3⟩
  simp only [execOp, ho, h1]
  simp [Instr.loadAt, Instr.sureAddr, h2]

theorem toBytes_VR {ι : Inj} : ∀ {cs : List AV} {vs : List Value} {bs : List UInt8}, toBytes cs = some bs → VRL ι cs vs → ∃ ns : List Int, vs = ns.map (Value.int .u8) ∧ bs = ns.map fun n => UInt8.ofNat n.toNat
  | [], [], bs, h, _ => by
    simp only [toBytes, Option.some.injEq] at h
    subst h
    exact ⟨[], rfl, rfl⟩
  | [], _ :: _, _, _, h => by simp [VRL] at h
  | a :: cs, [], _, _, h => by simp [VRL] at h
  | a :: cs, v :: vs, bs, h, hr => by
    simp only [VRL] at hr
    cases a with
    | int k n =>
      cases k with
      | u8 =>
        simp only [toBytes] at h
        obtain ⟨bs', hb, rfl⟩ := Option.map_eq_some_iff.1 h
        obtain ⟨ns, rfl, rfl⟩ := toBytes_VR hb hr.2
        have h1 := hr.1
        simp only [VR] at h1
        subst h1
        exact ⟨n :: ns, rfl, rfl⟩
      | _ => simp [toBytes] at h
    | _ => simp [toBytes] at h

theorem push_foldl (ns : List Int) : ∀ s : ByteArray, (ns.foldl (fun r n => r.push (UInt8.ofNat n.toNat)) s).data.toList = s.data.toList ++ ns.map fun n => UInt8.ofNat n.toNat := by
  induction ns with
  | nil => intro s; simp
  | cons n ns ih =>
    intro s
    rw [List.foldl_cons, ih]
    simp [ByteArray.push]

theorem LOk.bytesStr {P : Program} {o : Oper} {s d elem : TypeId} {x : Operand} {ax : AX} (ho : o.op = .convert s d x) (hs : P.underlying s = some (.slice elem)) (he8 : P.underlying elem = some (.int .u8)) (hd : P.underlying d = some .string) (hx : cX x = some ax) : LOk P o (.bytesStr ax) := by
  intro ι M e a w v r he h
  have h1 := cX_VR hx he
  simp only [aL] at h
  unfold aBytesStr at h
  split at h
  case h_3 => cases h
  · rename_i hc
    obtain rfl := Option.some.inj h
    rw [hc] at h1
    simp only [VR] at h1
    obtain ⟨h1, _⟩ := h1
    refine ⟨.string .empty, ?_, ?_⟩
    · simp only [execOp, ho, h1]
      simp [run_convert_bytes_string w s d elem none 0 0 hs he8 hd, Conv.bytesToString]
    · simp only [VR]
      exact ⟨_, rfl, rfl⟩
  · rename_i b off len cap ex hc
    rw [hc] at h1
    split at h
    · rename_i h0
      subst h0
      obtain rfl := Option.some.inj h
      simp only [VR] at h1
      obtain ⟨L, ad, cap', e1, e2, e3, e4, e5, e6, e7, e8, e9, e10⟩ := h1
      refine ⟨.string .empty, ?_, by simp only [VR]; exact ⟨_, rfl, rfl⟩⟩
      simp only [execOp, ho, e2]
      simp [run_convert_bytes_string w s d elem (some ad) 0 cap' hs he8 hd, Conv.bytesToString, loadCells, loadCellsFrom]
    rename_i hlen0
    obtain ⟨bs, hbs, rfl⟩ := Option.map_eq_some_iff.1 h
    obtain ⟨cs, hcs, hbs⟩ := Option.bind_eq_some_iff.1 hbs
    simp only [VR] at h1
    obtain ⟨L, ad, cap', e1, e2, e3, e4, e5, e6, e7, e8, e9, e10⟩ := h1
    obtain ⟨l', vs, hl', hrun, hr, _⟩ := loadCells_run (P := P) r hcs
    rw [e1] at hl'
    obtain rfl := Option.some.inj hl'
    obtain ⟨ns, hns, rfl⟩ := toBytes_VR hbs hr
    have hvs : vs = (ns.map (Value.int .u8)).toArray := by rw [← hns]
    subst hvs
    have hload : (loadCells ad len).run P w = .ok (ns.map (Value.int .u8)).toArray w := by
      rcases Nat.eq_zero_or_pos cap' with h0 | hpos
      · obtain rfl : len = 0 := by omega
        have : ns = [] := by
          have h1 := (r.read hcs).1
          have h2 := hr.length
          simp at h2
          cases ns with
          | nil => rfl
          | cons _ _ => simp at h2; omega
        subst this
        simp [loadCells, loadCellsFrom]
      · replace e3 := e3.resolve_left (by omega)
        replace e4 := e4.resolve_left (by omega)
        have h0 := e5.resolve_left (by omega)
        have : ad = ⟨L.j, L.d + off, none⟩ := by
          obtain ⟨q1, q2, q3⟩ := ad
          simp only at e3 e4 h0
          subst e3 e4 h0
          rfl
        rw [this]
        exact hrun
    refine ⟨.string (ns.foldl (fun r n => r.push (UInt8.ofNat n.toNat)) ByteArray.empty), ?_, ?_⟩
    · simp only [execOp, ho, e2]
      simp [run_convert_bytes_string w s d elem (some ad) len cap' hs he8 hd, run_bytesToString w ad len cap' ns hload]
    · simp only [VR]
      refine ⟨_, rfl, ?_⟩
      rw [push_foldl]
      rfl

end Go.Proofs.Ytlcjmchhnbdepaa
end

section
/- The abstract machine, sixth part: loud operations: stores, append, copy, clear, calls. -/
set_option linter.unusedVariables false
set_option linter.unusedSimpArgs false
namespace Go.Proofs.Ytlcjmchhnbdepaa

/-! ### Turning a heap -/

/-- One block is another one; all else is as it was. -/
structure Turned (w w' : World) (j : Nat) (ob : Obj) : Prop where
  size : w'.heap.size = w.heap.size
  other : ∀ i, i ≠ j → w'.heap[i]? = w.heap[i]?
  new : w'.heap[j]? = some ob
  os : w'.os = w.os
  tape : w'.tape = w.tape
  output : w'.output = w.output

theorem put_get {M : Heap} {b : Nat} {x : Option Blk} (i : Nat) : (M.put b x).get i = if i = b then x else M.get i := rfl
theorem push_get {M : Heap} {x : Blk} (i : Nat) : (M.push x).get i = if i = M.next then some x else M.get i := rfl

def Inj.set (ι : Inj) (b : Nat) (l : Loc) : Inj := fun i => if i = b then some l else ι i

theorem Inj.set_le {ι : Inj} {b : Nat} (h : ι b = none) (l : Loc) : ι.Le (ι.set b l) := fun i x e => by
  unfold Inj.set
  split
  · rename_i hi
    subst hi
    rw [h] at e
    cases e
  · exact e

theorem R.lt {ι : Inj} {M : Heap} {w : World} (r : R ι M w) {b : Nat} {x : Blk} (h : M.get b = some x) : b < M.next := by
  rcases Nat.lt_or_ge b M.next with h1 | h1
  · exact h1
  · rw [(r.fresh b h1).1] at h
    cases h

theorem R.lt' {ι : Inj} {M : Heap} {w : World} (r : R ι M w) {b : Nat} {l : Loc} (h : ι b = some l) : b < M.next := by
  rcases Nat.lt_or_ge b M.next with h1 | h1
  · exact h1
  · rw [(r.fresh b h1).2] at h
    cases h

theorem R.heap_lt {ι : Inj} {M : Heap} {w : World} (r : R ι M w) {b : Nat} {x : Blk} {l : Loc} (h : M.get b = some x) (hl : ι b = some l) : l.j < w.heap.size := by
  obtain ⟨l', o, h1, h2, _⟩ := r.blk b x h
  rw [hl] at h1
  obtain rfl := Option.some.inj h1
  exact (Array.getElem?_eq_some_iff.1 h2).1

/-- A block of one's own is turned. -/
theorem Tr.update {ι : Inj} {M : Heap} {w w' : World} {b : Nat} {x x' : Blk} {l : Loc} {ob : Obj} (r : R ι M w) (hx : M.get b = some x) (ho : x.own = true) (ho' : x'.own = true) (hl : ι b = some l) (ht : Turned w w' l.j ob) (hb : BR ι x' l ob) :
    Tr ι M w ι (M.put b (some x')) w' where
  rel := {
    blk := fun i y hy => by
      rw [put_get] at hy
      split at hy
      · rename_i hi
        subst hi
        obtain rfl := Option.some.inj hy
        exact ⟨l, ob, hl, ht.new, hb⟩
      · rename_i hi
        obtain ⟨l', o, h1, h2, h3⟩ := r.blk i y hy
        refine ⟨l', o, h1, ?_, h3⟩
        rw [ht.other _ (r.apart i b y x l' l hy hx h1 hl hi (.inr ho))]
        exact h2
    apart := fun i i' y y' l1 l2 h1 h2 h3 h4 hne hor => by
      rw [put_get] at h1 h2
      split at h1
      · rename_i hi
        subst hi
        rw [if_neg (Ne.symm hne)] at h2
        exact r.apart i i' x y' l1 l2 hx h2 h3 h4 hne (.inl ho)
      · split at h2
        · rename_i hi'
          subst hi'
          exact r.apart i i' y x l1 l2 h1 hx h3 h4 hne (.inr ho)
        · exact r.apart i i' y y' l1 l2 h1 h2 h3 h4 hne hor
    fresh := fun i hi => by
      have h1 : i ≠ b := by
        have := r.lt hx
        simp only [Heap.put] at hi
        omega
      rw [put_get, if_neg h1]
      exact r.fresh i hi }
  agree _ _ := rfl
  next := Nat.le_refl _
  dead i hi hd := by
    rw [put_get]
    split
    · rename_i h
      subst h
      rw [hx] at hd
      cases hd
    · exact hd
  ro i y hy hro := by
    rw [put_get] at hy
    split at hy
    · obtain rfl := Option.some.inj hy
      rw [ho'] at hro
      cases hro
    · exact hy
  owned i y l1 h1 h2 h3 h4 := by
    rw [put_get] at h1
    split at h1
    · rename_i h
      subst h
      exact ⟨i, x, l1, hx, ho, h3, rfl⟩
    · exact ⟨i, y, l1, h1, h2, h3, rfl⟩
  keep j hj hn := ht.other j fun e => hn b x l hx ho hl e.symm
  size := by rw [ht.size]; exact Nat.le_refl _
  os := ht.os
  tape := ht.tape
  output := ht.output

/-- A new block. -/
theorem Tr.push {ι : Inj} {M : Heap} {w w' : World} {x : Blk} {N : Nat} {ob : Obj} (r : R ι M w) (ho : x.own = true) (hm : Made w w' ob) (hb : BR (ι.set M.next ⟨w.heap.size, 0, N⟩) x ⟨w.heap.size, 0, N⟩ ob) :
    Tr ι M w (ι.set M.next ⟨w.heap.size, 0, N⟩) (M.push x) w' := by
  have hnone := (r.fresh M.next (Nat.le_refl _)).2
  have hle := Inj.set_le hnone ⟨w.heap.size, 0, N⟩
  have hset : ∀ i, i ≠ M.next → (ι.set M.next ⟨w.heap.size, 0, N⟩) i = ι i := fun i hi => by simp [Inj.set, hi]
  have hself : (ι.set M.next ⟨w.heap.size, 0, N⟩) M.next = some ⟨w.heap.size, 0, N⟩ := by simp [Inj.set]
  have hget : ∀ i y, M.get i = some y → i ≠ M.next := fun i y h => by have := r.lt h; omega
  constructor
  · constructor
    · intro i y hy
      rw [push_get] at hy
      split at hy
      · rename_i hi
        subst hi
        obtain rfl := Option.some.inj hy
        exact ⟨_, ob, hself, hm.new, hb⟩
      · obtain ⟨l', o, h1, h2, h3⟩ := r.blk i y hy
        refine ⟨l', o, hle _ _ h1, ?_, h3.mono hle⟩
        rw [hm.old _ (r.heap_lt hy h1)]
        exact h2
    · intro i i' y y' l1 l2 h1 h2 h3 h4 hne hor
      rw [push_get] at h1 h2
      split at h1
      · rename_i hi
        subst hi
        rw [if_neg (Ne.symm hne)] at h2
        rw [hself] at h3
        obtain rfl := Option.some.inj h3
        rw [hset i' (Ne.symm hne)] at h4
        have := r.heap_lt h2 h4
        simp only
        omega
      · rename_i hi
        rw [hset i hi] at h3
        split at h2
        · rename_i hi'
          subst hi'
          rw [hself] at h4
          obtain rfl := Option.some.inj h4
          have := r.heap_lt h1 h3
          simp only
          omega
        · rename_i hi'
          rw [hset i' hi'] at h4
          exact r.apart i i' y y' l1 l2 h1 h2 h3 h4 hne hor
    · intro i hi
      simp only [Heap.push] at hi
      have h1 : i ≠ M.next := by omega
      rw [push_get, if_neg h1, hset i h1]
      exact r.fresh i (by omega)
  · intro i hi
    exact hset i (by omega)
  · simp [Heap.push]
  · intro i hi hd
    rw [push_get, if_neg (by omega)]
    exact hd
  · intro i y hy hro
    rw [push_get] at hy
    split at hy
    · obtain rfl := Option.some.inj hy
      rw [ho] at hro
      cases hro
    · exact hy
  · intro i y l1 h1 h2 h3 h4
    rw [push_get] at h1
    split at h1
    · rename_i hi
      subst hi
      rw [hself] at h3
      obtain rfl := Option.some.inj h3
      simp at h4
    · rename_i hi
      rw [hset i hi] at h3
      exact ⟨i, y, l1, h1, h2, h3, rfl⟩
  · intro j hj hn
    exact hm.old j hj
  · rw [hm.size]; omega
  · exact hm.os
  · exact hm.tape
  · exact hm.output

/-- A block is given up. -/
theorem Tr.kill {ι : Inj} {M : Heap} {w : World} (r : R ι M w) (b : Nat) (hb : b < M.next) : Tr ι M w ι (M.put b none) w where
  rel := {
    blk := fun i y hy => by
      rw [put_get] at hy
      split at hy
      · cases hy
      · exact r.blk i y hy
    apart := fun i i' y y' l1 l2 h1 h2 h3 h4 hne hor => by
      rw [put_get] at h1 h2
      split at h1
      · cases h1
      · split at h2
        · cases h2
        · exact r.apart i i' y y' l1 l2 h1 h2 h3 h4 hne hor
    fresh := fun i hi => by
      rw [put_get]
      split
      · exact ⟨rfl, (r.fresh i hi).2⟩
      · exact r.fresh i hi }
  agree _ _ := rfl
  next := Nat.le_refl _
  dead i hi hd := by
    rw [put_get]
    split
    · rfl
    · exact hd
  ro i y hy _ := by
    rw [put_get] at hy
    split at hy
    · cases hy
    · exact hy
  owned i y l1 h1 h2 h3 _ := by
    rw [put_get] at h1
    split at h1
    · cases h1
    · exact ⟨i, y, l1, h1, h2, h3, rfl⟩
  keep _ _ _ := rfl
  size := Nat.le_refl _
  os := rfl
  tape := rfl
  output := rfl

/-- A block is turned, and bears another name from now on. -/
theorem Tr.rename {ι : Inj} {M : Heap} {w w' : World} {b : Nat} {x x' : Blk} {l l' : Loc} {ob : Obj} (r : R ι M w) (hx : M.get b = some x) (ho : x.own = true) (ho' : x'.own = true) (hl : ι b = some l) (hj : l'.j = l.j) (ht : Turned w w' l.j ob)
    (hb : BR (ι.set M.next l') x' l' ob) : Tr ι M w (ι.set M.next l') ((M.put b none).push x') w' := by
  have hnone := (r.fresh M.next (Nat.le_refl _)).2
  have hle := Inj.set_le hnone l'
  have hset : ∀ i, i ≠ M.next → (ι.set M.next l') i = ι i := fun i hi => by simp [Inj.set, hi]
  have hself : (ι.set M.next l') M.next = some l' := by simp [Inj.set]
  have hg : ∀ i, ((M.put b none).push x').get i = if i = M.next then some x' else if i = b then none else M.get i := fun i => rfl
  constructor
  · constructor
    · intro i y hy
      rw [hg] at hy
      split at hy
      · rename_i hi
        subst hi
        obtain rfl := Option.some.inj hy
        exact ⟨_, ob, hself, by rw [hj]; exact ht.new, hb⟩
      · split at hy
        · cases hy
        rename_i hib
        obtain ⟨l1, o, h1, h2, h3⟩ := r.blk i y hy
        refine ⟨l1, o, hle _ _ h1, ?_, h3.mono hle⟩
        rw [ht.other _ (r.apart i b y x l1 l hy hx h1 hl hib (.inr ho))]
        exact h2
    · intro i i' y y' l1 l2 h1 h2 h3 h4 hne hor
      rw [hg] at h1 h2
      split at h1
      · rename_i hi
        subst hi
        rw [if_neg (Ne.symm hne)] at h2
        split at h2
        · cases h2
        rename_i hib
        rw [hself] at h3
        obtain rfl := Option.some.inj h3
        rw [hset i' (Ne.symm hne)] at h4
        rw [hj]
        exact r.apart b i' x y' l l2 hx h2 hl h4 (fun e => hib e.symm) (.inl ho)
      · rename_i hi
        split at h1
        · cases h1
        rename_i hib
        rw [hset i hi] at h3
        split at h2
        · rename_i hi'
          subst hi'
          rw [hself] at h4
          obtain rfl := Option.some.inj h4
          rw [hj]
          exact r.apart i b y x l1 l h1 hx h3 hl hib (.inr ho)
        · split at h2
          · cases h2
          rename_i hi' _
          rw [hset i' hi'] at h4
          exact r.apart i i' y y' l1 l2 h1 h2 h3 h4 hne hor
    · intro i hi
      have hi' : M.next + 1 ≤ i := hi
      have h1 : i ≠ M.next := by omega
      have h2 : i ≠ b := by have := r.lt hx; omega
      rw [hg, if_neg h1, if_neg h2, hset i h1]
      exact r.fresh i (by omega)
  · intro i hi
    exact hset i (by omega)
  · show M.next ≤ M.next + 1
    omega
  · intro i hi hd
    rw [hg, if_neg (by omega)]
    split
    · rfl
    · exact hd
  · intro i y hy hro
    rw [hg] at hy
    split at hy
    · obtain rfl := Option.some.inj hy
      rw [ho'] at hro
      cases hro
    · split at hy
      · cases hy
      · exact hy
  · intro i y l1 h1 h2 h3 h4
    rw [hg] at h1
    split at h1
    · rename_i hi
      subst hi
      rw [hself] at h3
      obtain rfl := Option.some.inj h3
      exact ⟨b, x, l, hx, ho, hl, hj.symm⟩
    · rename_i hi
      split at h1
      · cases h1
      · rw [hset i hi] at h3
        exact ⟨i, y, l1, h1, h2, h3, rfl⟩
  · intro j hj hn
    exact ht.other j fun e => hn b x l hx ho hl e.symm
  · rw [ht.size]; exact Nat.le_refl _
  · exact ht.os
  · exact ht.tape
  · exact ht.output

/-! ### Cells written -/

theorem setCell_turned {w : World} {j o : Nat} {cur : Array Value} {t : TypeId} {fz : Nat × Nat} (v : Value) (h : w.heap[j]? = some (.cells cur t fz)) : Turned w (w.setCell ⟨j, o, none⟩ v) j (.cells (cur.setIfInBounds o v) t fz) := by
  refine ⟨by simp, fun i hi => by simp [World.setCell, Array.getElem?_modify, Ne.symm hi], ?_, rfl, rfl, rfl⟩
  have hj := (Array.getElem?_eq_some_iff.1 h).1
  have he := (Array.getElem?_eq_some_iff.1 h).2
  simp [World.setCell, Array.getElem?_modify, h]

theorem Turned.trans {w w1 w2 : World} {j : Nat} {o1 o2 : Obj} (h : Turned w w1 j o1) (k : Turned w1 w2 j o2) : Turned w w2 j o2 :=
  ⟨k.size.trans h.size, fun i hi => (k.other i hi).trans (h.other i hi), k.new, k.os.trans h.os, k.tape.trans h.tape, k.output.trans h.output⟩

theorem storeCells_run {P : Program} {j o : Nat} {t : TypeId} {fz : Nat × Nat} : ∀ (vs : List Value) (i : Nat) (cur : Array Value) (w : World), w.heap[j]? = some (.cells cur t fz) → o + i + vs.length ≤ cur.size → (∀ v, v ∈ vs → v.oneCell' = true) →
    (∀ k, o + i ≤ k → k < o + i + vs.length → ¬ (fz.1 ≤ k ∧ k < fz.2)) → ∃ w' cur', (storeCells ⟨j, o, none⟩ vs i).run P w = .ok () w' ∧ (vs = [] → w' = w) ∧ (vs ≠ [] → Turned w w' j (.cells cur' t fz)) ∧ cur'.toList = cur.toList.take (o + i) ++ vs ++ cur.toList.drop (o + i + vs.length)
  | [], i, cur, w, h, hs, _, _ => ⟨w, cur, by simp [storeCells], fun _ => rfl, fun h => absurd rfl h, by simp⟩
  | v :: vs, i, cur, w, h, hs, hv, hf => by
    simp only [List.length_cons] at hs hf
    have hcell : w.cell? ⟨j, o + i, none⟩ = some cur[o + i] := cell_of h (by simp)
    have hfro : w.frozen? ⟨j, o + i, none⟩ = false := by
      have := hf (o + i) (Nat.le_refl _) (by omega)
      simp [World.frozen?, h]
      omega
    have hstep : (store (⟨j, o + i, none⟩ : Addr) v .plain).run P w = .ok () (w.setCell ⟨j, o + i, none⟩ v) := by
      rw [run_store P w _ v _ (hv v (by simp))]
      simp [hcell, hfro]
    have ht := setCell_turned (o := o + i) v h
    obtain ⟨w', cur', h1, h2, h3, h4⟩ := storeCells_run (P := P) (o := o) vs (i + 1) _ _ ht.new (by simp; omega) (fun u hu => hv u (by simp [hu])) (fun k hk hk' => hf k (by omega) (by omega))
    refine ⟨w', cur', ?_, fun h => by simp at h, fun _ => ?_, ?_⟩
    · simp only [storeCells, add_none, Sem.run_bind, hstep, Result.andThen_ok]
      exact h1
    · cases vs with
      | nil =>
        obtain rfl := h2 rfl
        have : cur' = cur.setIfInBounds (o + i) v := by
          apply Array.ext'
          rw [h4]
          simp
        rw [this]
        exact ht
      | cons u us => exact ht.trans (h3 (by simp))
    · rw [h4]
      simp only [Array.toList_setIfInBounds, List.length_cons]
      have e1 : (cur.toList.set (o + i) v).take (o + (i + 1)) = cur.toList.take (o + i) ++ [v] := by
        rw [show o + (i + 1) = o + i + 1 from by omega, List.take_add_one]
        simp [List.take_set_of_le, show o + i < cur.size from by omega]
      have e2 : (cur.toList.set (o + i) v).drop (o + (i + 1) + vs.length) = cur.toList.drop (o + i + (vs.length + 1)) := by
        rw [List.drop_set_of_lt (by omega)]
        congr 1; omega
      rw [e1, e2]
      simp

/-- A write within a block's own place. -/
theorem write_loc {P : Program} {ι : Inj} {M : Heap} {w : World} (r : R ι M w) {b : Nat} {c : List AV} {sl : Bool} (hb : M.get b = some (.cells c false sl)) {l : Loc} (hl : ι b = some l) {o : Nat} {vs : List Value} (hne : vs ≠ []) (ho : o + vs.length ≤ l.N) (hv : ∀ v, v ∈ vs → v.oneCell' = true) :
    ∃ w' cs cs' elem fz, (storeCells ⟨l.j, l.d + o, none⟩ vs).run P w = .ok () w' ∧ w.heap[l.j]? = some (.cells cs elem fz) ∧ Turned w w' l.j (.cells cs' elem fz) ∧ cs'.toList = cs.toList.take (l.d + o) ++ vs ++ cs.toList.drop (l.d + o + vs.length) ∧ BR ι (.cells c false sl) l (.cells cs elem fz) := by
  obtain ⟨l', ob, hl', hob, hbr⟩ := r.blk b _ hb
  rw [hl] at hl'
  obtain rfl := Option.some.inj hl'
  have hbr' := hbr
  obtain ⟨cs, elem, fz, rfl, h2, h3, h4, h5, h6⟩ := hbr
  obtain ⟨w', cs', g1, _, g3, g4⟩ := storeCells_run (P := P) (o := l.d + o) vs 0 cs w hob (by omega) hv (fun k hk hk' => by have := (h6 rfl).1; omega)
  exact ⟨w', cs, cs', elem, fz, g1, hob, g3 hne, by simpa using g4, hbr'⟩

theorem VRL.oneCell {ι : Inj} {cs : List AV} {vs : List Value} (h : VRL ι cs vs) (hc : ∀ c, c ∈ cs → c.isCell = true) : ∀ v, v ∈ vs → v.oneCell' = true := fun v hv => by
  obtain ⟨i, hi⟩ := List.mem_iff_getElem?.1 hv
  have hlt : i < cs.length := by rw [h.length]; exact (List.getElem?_eq_some_iff.1 hi).1
  obtain ⟨v', hv', hr⟩ := h.get i cs[i] (by simp)
  rw [hi] at hv'
  obtain rfl := Option.some.inj hv'
  exact isCell_oneCell (hc _ (List.getElem_mem hlt)) hr

/-- A segment of cells is another one. -/
theorem BR.seg {ι : Inj} {c c' new : List AV} {sl sl' : Bool} {l : Loc} {cs cs' : Array Value} {elem : TypeId} {fz : Nat × Nat} {o : Nat} {vs : List Value} (hss : sl' = false → sl = false) (h : BR ι (.cells c false sl) l (.cells cs elem fz)) (hnew : VRL ι new vs) (hc : ∀ a, a ∈ new → a.isCell = true) (ho : o + vs.length ≤ l.N)
    (hcs : cs'.toList = cs.toList.take (l.d + o) ++ vs ++ cs.toList.drop (l.d + o + vs.length)) (hlen : c'.length ≤ l.N) (hsl : sl' = false → c'.length = l.N)
    (hc' : ∀ i a, c'[i]? = some a → (o ≤ i ∧ i < o + new.length ∧ new[i - o]? = some a) ∨ ((i < o ∨ o + new.length ≤ i) ∧ c[i]? = some a)) : BR ι (.cells c' false sl') l (.cells cs' elem fz) := by
  obtain ⟨cs0, elem0, fz0, e, h2, h3, h4, h5, h6⟩ := h
  obtain ⟨rfl, rfl, rfl⟩ : cs0 = cs ∧ elem0 = elem ∧ fz0 = fz := by injection e with e1 e2 e3; exact ⟨e1.symm, e2.symm, e3.symm⟩
  have hvl := hnew.length
  have hsz : cs'.size = cs0.size := by
    have := congrArg List.length hcs
    simp at this
    omega
  refine ⟨cs', elem0, fz0, rfl, by omega, hlen, hsl, fun i a hi => ?_, fun hr => by rw [hsz]; exact ⟨(h6 hr).1, fun hs => (h6 hr).2 (hss hs)⟩⟩
  rcases hc' i a hi with ⟨q1, q2, q3⟩ | ⟨q1, q2⟩
  · obtain ⟨v, hv, hr⟩ := hnew.get _ a q3
    refine ⟨v, ?_, hc a (List.mem_of_getElem? q3), hr⟩
    rw [← Array.getElem?_toList, hcs, List.append_assoc, List.getElem?_append_right (by simp; omega), List.getElem?_append_left (by simp; omega)]
    have : l.d + i - (cs0.toList.take (l.d + o)).length = i - o := by simp; omega
    rw [this]
    exact hv
  · obtain ⟨v, hv, hcell, hr⟩ := h5 i a q2
    refine ⟨v, ?_, hcell, hr⟩
    rw [← Array.getElem?_toList, hcs, List.append_assoc]
    rw [← Array.getElem?_toList] at hv
    rcases q1 with q1 | q1
    · rw [List.getElem?_append_left (by simp; have := (List.getElem?_eq_some_iff.1 hv).1; simp at this; omega), List.getElem?_take, if_pos (by omega)]
      exact hv
    · rw [List.getElem?_append_right (by simp; omega), List.getElem?_append_right (by simp; omega), List.getElem?_drop]
      have : l.d + o + vs.length + (l.d + i - (cs0.toList.take (l.d + o)).length - vs.length) = l.d + i := by simp; omega
      rw [this]
      exact hv

/-- The machine's write is the model's. -/
theorem write_run {P : Program} {ι : Inj} {M M' : Heap} {w : World} (r : R ι M w) {b o : Nat} {new : List AV} (h : M.write b o new = some M') {vs : List Value} (hnew : VRL ι new vs) (hc : ∀ a, a ∈ new → a.isCell = true) :
    ∃ l w', ι b = some l ∧ (storeCells ⟨l.j, l.d + o, none⟩ vs).run P w = .ok () w' ∧ Tr ι M w ι M' w' := by
  unfold Heap.write at h
  split at h
  case h_2 => cases h
  rename_i c sl hb
  split at h
  case isFalse => cases h
  rename_i hle
  obtain rfl := Option.some.inj h
  obtain ⟨l, ob, hl, hob, hbr⟩ := r.blk b _ hb
  have hN : c.length ≤ l.N := by obtain ⟨_, _, _, _, _, h3, _⟩ := hbr; exact h3
  have hvl := hnew.length
  refine ⟨l, ?_⟩
  cases hv : vs with
  | nil =>
    subst hv
    have hn0 : new = [] := by cases new with | nil => rfl | cons _ _ => simp at hvl
    subst hn0
    refine ⟨w, hl, by simp [storeCells], ?_⟩
    have e : (M.put b (some (.cells (c.take o ++ [] ++ c.drop (o + ([] : List AV).length)) false sl))) = M := by
      unfold Heap.put
      cases M with
      | mk g n =>
        congr
        funext i
        split
        · rename_i hi
          subst hi
          simp only at hb
          rw [hb]
          simp
        · rfl
    rw [e]
    exact Tr.refl r
  | cons u us =>
    rw [← hv]
    have hne : vs ≠ [] := by rw [hv]; simp
    obtain ⟨w', cs, cs', elem, fz, g1, g2, g3, g4, g5⟩ := write_loc (P := P) r hb hl (o := o) hne (by omega) (hnew.oneCell hc)
    refine ⟨w', hl, g1, Tr.update r hb rfl rfl hl g3 (BR.seg id g5 hnew hc (by omega) g4 (by simp; omega) (fun hs => ?_) ?_)⟩
    · obtain ⟨_, _, _, _, _, _, h4, _⟩ := hbr
      have := h4 hs
      simp
      omega
    · intro i a hi
      rw [List.append_assoc, List.getElem?_append] at hi
      split at hi
      · rename_i h1
        simp at h1
        rw [List.getElem?_take, if_pos (by omega)] at hi
        exact .inr ⟨.inl (by omega), hi⟩
      · rename_i h1
        simp at h1
        have htl : (c.take o).length = o := by simp; omega
        rw [htl, List.getElem?_append] at hi
        split at hi
        · rename_i h2
          exact .inl ⟨by omega, by omega, hi⟩
        · rename_i h2
          rw [List.getElem?_drop] at hi
          refine .inr ⟨.inr (by omega), ?_⟩
          rw [← hi]
          congr 1
          omega

end Go.Proofs.Ytlcjmchhnbdepaa
end

section
/- The abstract machine, seventh part: the loud operations are right. -/
set_option linter.unusedVariables false
set_option linter.unusedSimpArgs false
namespace Go.Proofs.Ytlcjmchhnbdepaa

/-- What a called function is to keep: over whatever is related, it returns what the machine's does. -/
def Sound (P : Program) (f : FuncId) (g : List AV → Heap → Option (AV × Heap)) : Prop :=
  ∀ (args : List AV) (M : Heap) (v : AV) (M' : Heap), g args M = some (v, M') →
    ∀ (ι : Inj) (w : World) (vs : Array Value), R ι M w → VRL ι args vs.toList →
      Calls P f vs w fun e w' => ∃ ι' v', e = .returned v' ∧ VR ι' v v' ∧ Tr ι M w ι' M' w'

/-- Of a function that has a body. -/
def Bodied (P : Program) (f : FuncId) : Prop := ∃ fn c, P.funcs[f]? = some fn ∧ fn.body = some c ∧ (fn.name == "runtime.NumGoroutine") = false

/-- Of a function for which the model stands in. -/
def ExtOk (P : Program) (f : FuncId) (g : List AV → Heap → Option (AV × Heap)) : Prop :=
  ∀ (args : List AV) (M : Heap) (v : AV) (M' : Heap), g args M = some (v, M') → M' = M ∧ ∀ (ι : Inj) (w : World) (vs : Array Value), R ι M w → VRL ι args vs.toList → ∃ v', (callFunc f vs).run P w = .ok (.value v') w ∧ VR ι v v'

def CallsOk (P : Program) (C : ACalls) : Prop := ∀ f, ((∀ args M r, C f args M = some r → Bodied P f) ∧ Sound P f (C f)) ∨ ExtOk P f (C f)

def NOk (P : Program) (C : ACalls) (o : Oper) (n : NOp) : Prop :=
  ∀ (ι : Inj) (M : Heap) (e : Env) (a : Act) (w : World) (v : AV) (M' : Heap) (next : Act → World → Prop) (Q : Exit → Act → World → Prop), R ι M w → VRL ι e a.tmps.toList → aN C n e M = some (v, M') →
    (∀ ι' v' w', Tr ι M w ι' M' w' → VR ι' v v' → next (a.put o.dst v') w') → o.wp P a w next Q

theorem NOk.of_run {P : Program} {o : Oper} {a : Act} {w w' : World} {next : Act → World → Prop} {Q : Exit → Act → World → Prop} {v : Value} (h : (execOp a.eval o).run P w = .ok (.value v) w') (hn : next (a.put o.dst v) w') : o.wp P a w next Q := by
  unfold Oper.wp
  rw [h]
  exact hn

theorem NOk.of_skip {P : Program} {o : Oper} {a : Act} {w w' : World} {next : Act → World → Prop} {Q : Exit → Act → World → Prop} (h : (execOp a.eval o).run P w = .ok .skip w') (hn : next (a.put o.dst undef) w') : o.wp P a w next Q := by
  unfold Oper.wp
  rw [h]
  exact hn

theorem VR.unit (ι : Inj) : VR ι (.tuple []) Go.undef := by
  simp only [VR, Go.undef]
  exact ⟨#[], rfl, by simp [VRL]⟩

theorem NOk.fail {P : Program} {C : ACalls} {o : Oper} : NOk P C o .fail := by
  intro ι M e a w v M' next Q r he h
  simp [aN] at h

theorem NOk.store {P : Program} {C : ACalls} {o : Oper} {t : TypeId} {n : Nat} {x y : Operand} {ax ay : AX} (ho : o.op = .store t x y) (hn : szOf P t = some n) (hx : cX x = some ax) (hy : cX y = some ay) : NOk P C o (.store n ax ay) := by
  intro ι M e a w v M' next Q r he h hnext
  have h1 := cX_VR hx he
  have h2 := cX_VR hy he
  simp only [aN] at h
  unfold aStore at h
  split at h
  case h_2 => cases h
  rename_i b off cs hc1 hc2
  split at h
  case isFalse => cases h
  rename_i hlen
  obtain ⟨M1, hM, h⟩ := Option.map_eq_some_iff.1 h
  simp only [Prod.mk.injEq] at h
  obtain ⟨rfl, rfl⟩ := h
  rw [hc1] at h1
  simp only [VR] at h1
  obtain ⟨L, hL, h1⟩ := h1
  obtain ⟨g1, g2⟩ := cells?_VR hc2 h2
  obtain ⟨l, w', hl, hrun, htr⟩ := write_run (P := P) r hM g1 g2
  rw [hL] at hl
  obtain rfl := Option.some.inj hl
  have hsz : (a.eval y).cells.size = n := by have := g1.length; simp at this; omega
  refine NOk.of_skip (w' := w') ?_ (hnext ι undef w' htr (VR.unit _))
  simp only [execOp, ho, h1]
  simp [Instr.storeAt, Instr.sureAddr, storeVar, run_sz hn, hsz, hrun]

theorem NOk.call {P : Program} {C : ACalls} (hC : CallsOk P C) {o : Oper} {f : Operand} {args : Array Operand} {ts : Array TypeId} {af : AX} {al : List AX} (ho : o.op = .call { callee := .value f, args := args, argTypes := ts }) (hf : cX f = some af) (hx : cXs args.toList = some al) : NOk P C o (.call af al) := by
  intro ι M e a w v M' next Q r he h hnext
  have h1 := cX_VR hf he
  have h2 := cXs_VR he hx
  simp only [aN] at h
  unfold aCall at h
  split at h
  case h_2 => cases h
  rename_i g caps hc
  rw [hc] at h1
  simp only [VR] at h1
  obtain ⟨cs, h1, h3⟩ := h1
  rcases hC g with ⟨hB, hS⟩ | hE
  case inr =>
    obtain ⟨rfl, q⟩ := hE _ _ _ _ h
    obtain ⟨v', q1, q2⟩ := q ι w (args.map a.eval ++ cs) r (by simpa using h2.append h3)
    refine NOk.of_run (w' := w) (v := v') ?_ (hnext ι v' w (Tr.refl r) q2)
    simp only [execOp, ho]
    simp [resolve, Deferred.ofValue, h1, invoke, q1]
  obtain ⟨fn, c, hfn, hbody, hname⟩ := hB _ _ _ h
  have hs := hS _ _ _ _ h ι w (args.map a.eval ++ cs) r (by simpa using h2.append h3)
  have hrun : (execOp a.eval o).run P w = .ok (.enter g (args.map a.eval ++ cs)) w := by
    simp only [execOp, ho]
    have hname' : ¬ (fn.name = "runtime.NumGoroutine") := by simpa using hname
    simp [resolve, Deferred.ofValue, h1, invoke, callFunc, hfn, hbody, hname']
  unfold Oper.wp
  rw [hrun]
  rw [Oper.upon_enter]
  refine hs.mono ?_
  rintro e' w' ⟨ι', v', rfl, hv', htr⟩
  exact hnext ι' v' w' htr hv'

/-! ### append -/

theorem zeroCells_eq (z : Array Value) (n : Nat) : Builtin.zeroCells z n = madeCells z (n * z.size) := rfl

/-- append, where it grows. -/
theorem run_append_more {P : Program} (w : World) (t u ty e : TypeId) (i : TypeInfo) (z : Value) (ht : P.underlying t = some (.slice e)) (hu : P.underlying u = some .string ∨ ∃ e', P.underlying u = some (.slice e')) (hi : P.info? e = some i) (hz : i.zero = some z)
    (base : Option Addr) (sLen sCap n : Nat) (x : Value) (olds news : Array Value) (hold : ∀ w', w'.heap = w.heap → (Builtin.firstCells i.size sLen (.slice base sLen sCap)).run P w' = .ok olds w')
    (hlen : ∀ w', (Builtin.lenOf x).run P w' = .ok n w') (hnew : ∀ w', w'.heap = w.heap → (Builtin.firstCells i.size n x).run P w' = .ok news w')
    (hg : sCap < sLen + n) (h63 : ((sLen + n : Nat) : Int) ≤ 9223372036854775807) (hfit : Builtin.nextslicecap (sLen + n) sCap * i.bytes ≤ 281474976710656) :
    (Builtin.append_ #[t, u] ty #[.slice base sLen sCap, x]).run P w =
      .ok (.slice (some ⟨w.heap.size, 0, none⟩) (sLen + n) (grownCap w (sLen + n) sCap e))
        (w.drew.alloc (.cells (olds ++ news ++ madeCells z.cells ((grownCap w (sLen + n) sCap e - (sLen + n)) * z.cells.size)) e)) := by
  have hn : ¬ (sLen + n ≤ sCap) := by omega
  have h63' : ¬ (9223372036854775807 < ((sLen : Int) + (n : Int))) := by omega
  have h48' : ¬ (281474976710656 < Builtin.nextslicecap (sLen + n) sCap * i.bytes) := by omega
  have h1 := hold w.drew rfl
  have h2 := hnew w.drew rfl
  rcases hu with hu | ⟨e', hu⟩ <;>
    simp [Builtin.append_, run_underlying ht, run_underlying hu, sizeOf, typeInfo, zeroValue, hi, hz, hlen, hn, h63', h48', Question.forced, h1, h2, newRow, grownCap, zeroCells_eq]

theorem run_append_more_zeros {P : Program} (w : World) (t u ty e : TypeId) (i : TypeInfo) (z : Value) (ht : P.underlying t = some (.slice e)) (hu : ∃ k, P.underlying u = some (.int k)) (hi : P.info? e = some i) (hz : i.zero = some z)
    (base : Option Addr) (sLen sCap n : Nat) (kk : IntKind) (olds : Array Value) (hold : ∀ w', w'.heap = w.heap → (Builtin.firstCells i.size sLen (.slice base sLen sCap)).run P w' = .ok olds w') (hsz : 0 < i.size) (hzs : z.cells.size = i.size)
    (hn0 : 0 < n) (hg : sCap < sLen + n) (h63 : ((sLen + n : Nat) : Int) ≤ 9223372036854775807) (hb : n * i.bytes ≤ 281474976710656) (hfit : Builtin.nextslicecap (sLen + n) sCap * i.bytes ≤ 281474976710656) :
    (Builtin.append_ #[t, u] ty #[.slice base sLen sCap, .int kk n]).run P w =
      .ok (.slice (some ⟨w.heap.size, 0, none⟩) (sLen + n) (grownCap w (sLen + n) sCap e))
        (w.drew.alloc (.cells (olds ++ madeCells z.cells (n * z.cells.size) ++ madeCells z.cells ((grownCap w (sLen + n) sCap e - (sLen + n)) * z.cells.size)) e)) := by
  have hn : ¬ (sLen + n ≤ sCap) := by omega
  have h63' : ¬ (9223372036854775807 < ((sLen : Int) + (n : Int))) := by omega
  have h48' : ¬ (281474976710656 < Builtin.nextslicecap (sLen + n) sCap * i.bytes) := by omega
  obtain ⟨k, hu⟩ := hu
  have h1 := hold w.drew rfl
  have hw : IntKind.i64.wrap (n : Int) = n := by rw [IntKind.wrap_i64]; omega
  have hb' : ¬ ((281474976710656 : Int) < (n : Int) * (i.bytes : Int)) := by
    rw [← Int.natCast_mul]
    omega
  have h0 : ¬ (n * i.size = 0) := by
    intro h
    rcases Nat.mul_eq_zero.1 h with h | h <;> omega
  have hneg : ¬ ((n : Int) < 0) := by omega
  simp [Builtin.append_, run_underlying ht, run_underlying hu, sizeOf, typeInfo, zeroValue, hi, hz, hn, h63', h48', Question.forced, h1, newRow, grownCap, zeroCells_eq, asInt, asIntOf, hw, hb', h0, hneg]

/-- append, where there is room. -/
theorem run_append_room {P : Program} (w : World) (t u ty e : TypeId) (i : TypeInfo) (ht : P.underlying t = some (.slice e)) (hu : P.underlying u = some .string ∨ ∃ e', P.underlying u = some (.slice e')) (hi : P.info? e = some i)
    (ad : Addr) (sLen sCap n : Nat) (x : Value) (news : Array Value) (w' : World)
    (hlen : ∀ w', (Builtin.lenOf x).run P w' = .ok n w') (hnew : (Builtin.firstCells i.size n x).run P w = .ok news w)
    (hg : sLen + n ≤ sCap) (hst : (storeCells (ad.add (sLen * i.size)) news.toList).run P w = .ok () w') :
    (Builtin.append_ #[t, u] ty #[.slice (some ad) sLen sCap, x]).run P w = .ok (.slice (some ad) (sLen + n) sCap) w' := by
  rcases hu with hu | ⟨e', hu⟩ <;>
    simp [Builtin.append_, run_underlying ht, run_underlying hu, sizeOf, typeInfo, hi, hlen, hg, hnew, hst]

theorem run_append_room_zeros {P : Program} (w : World) (t u ty e : TypeId) (i : TypeInfo) (z : Value) (ht : P.underlying t = some (.slice e)) (hu : ∃ k, P.underlying u = some (.int k)) (hi : P.info? e = some i) (hz : i.zero = some z)
    (ad : Addr) (sLen sCap n : Nat) (kk : IntKind) (w' : World) (hsz : 0 < i.size) (hn63 : (n : Int) ≤ 9223372036854775807) (hb : n * i.bytes ≤ 281474976710656)
    (hn0 : 0 < n) (hg : sLen + n ≤ sCap) (hst : (storeCells (ad.add (sLen * i.size)) (madeCells z.cells (n * z.cells.size)).toList).run P w = .ok () w') :
    (Builtin.append_ #[t, u] ty #[.slice (some ad) sLen sCap, .int kk n]).run P w = .ok (.slice (some ad) (sLen + n) sCap) w' := by
  obtain ⟨k, hu⟩ := hu
  have hw : IntKind.i64.wrap (n : Int) = n := by rw [IntKind.wrap_i64]; omega
  have hb' : ¬ ((281474976710656 : Int) < (n : Int) * (i.bytes : Int)) := by
    rw [← Int.natCast_mul]
    omega
  have h0 : ¬ (n * i.size = 0) := by
    intro h
    rcases Nat.mul_eq_zero.1 h with h | h <;> omega
  have hneg : ¬ ((n : Int) < 0) := by omega
  simp [Builtin.append_, run_underlying ht, run_underlying hu, sizeOf, typeInfo, zeroValue, hi, hz, hg, asInt, asIntOf, hw, hb', h0, zeroCells_eq, hst, hneg]

/-- append at a nil slice of nothing. -/
theorem run_append_nothing {P : Program} (w : World) (t u ty e : TypeId) (i : TypeInfo) (ht : P.underlying t = some (.slice e)) (hu : P.underlying u = some .string ∨ ∃ e', P.underlying u = some (.slice e')) (hi : P.info? e = some i)
    (base : Option Addr) (sLen sCap : Nat) (x : Value) (hlen : ∀ w', (Builtin.lenOf x).run P w' = .ok 0 w') (hnew : (Builtin.firstCells i.size 0 x).run P w = .ok #[] w) (hg : sLen ≤ sCap) :
    (Builtin.append_ #[t, u] ty #[.slice base sLen sCap, x]).run P w = .ok (.slice base sLen sCap) w := by
  rcases hu with hu | ⟨e', hu⟩ <;> cases base <;>
    simp [Builtin.append_, run_underlying ht, run_underlying hu, sizeOf, typeInfo, hi, hlen, hg, hnew, storeCells]

/-- The elements that are appended, in the model. -/
theorem elems_run {P : Program} {ι : Inj} {M : Heap} {w : World} (r : R ι M w) {x : AV} {v : Value} (hx : VR ι x v) {sz n : Nat} {new : List AV} (hs : aElemSize x sz = true) (h : aElems x M = some (n, new)) :
    (∀ w', (Builtin.lenOf v).run P w' = .ok n w') ∧ ∃ news : Array Value, (∀ w', w'.heap = w.heap → (Builtin.firstCells sz n v).run P w' = .ok news w') ∧ VRL ι new news.toList ∧ (∀ a, a ∈ new → a.isCell = true) ∧ new.length = n * sz := by
  unfold aElems at h
  split at h
  · rename_i sz' len cap ex
    simp only [Option.some.injEq, Prod.mk.injEq] at h
    obtain ⟨rfl, rfl⟩ := h
    simp only [VR] at hx
    obtain ⟨rfl, rfl, _⟩ := hx
    refine ⟨fun w' => by simp [Builtin.lenOf], #[], fun w' _ => by simp [Builtin.firstCells], by simp [VRL], by simp, by simp⟩
  · rename_i b o sz' len cap ex
    split at h
    · rename_i h0
      subst h0
      simp only [Option.some.injEq, Prod.mk.injEq] at h
      obtain ⟨rfl, rfl⟩ := h
      simp only [VR] at hx
      obtain ⟨L, ad, cap', e1, rfl, e3, e4, e5, e6, e7, e8, e9, e10⟩ := hx
      refine ⟨fun w' => by simp [Builtin.lenOf], #[], fun w' _ => by simp [Builtin.firstCells, loadCells, loadCellsFrom], by simp [VRL], by simp, by simp⟩
    rename_i hlen0
    obtain ⟨cs, hcs, h⟩ := Option.map_eq_some_iff.1 h
    simp only [Prod.mk.injEq] at h
    obtain ⟨rfl, rfl⟩ := h
    simp only [aElemSize, beq_iff_eq] at hs
    subst hs
    simp only [VR] at hx
    obtain ⟨L, ad, cap', e1, rfl, e3, e4, e5, e6, e7, e8, e9, e10⟩ := hx
    obtain ⟨hlen, hc, l, vs, hl, hr, hcell⟩ := r.read hcs
    rw [e1] at hl
    obtain rfl := Option.some.inj hl
    refine ⟨fun w' => by simp [Builtin.lenOf], vs.toArray, fun w' hw' => ?_, by simpa using hr, hc, hlen⟩
    have hvl : vs.length = len * sz' := by rw [← hr.length, hlen]
    rcases Nat.eq_zero_or_pos cap' with h0 | hpos
    · obtain rfl : len = 0 := by omega
      have : vs = [] := by cases vs with | nil => rfl | cons _ _ => simp at hvl
      subst this
      simp [Builtin.firstCells, loadCells, loadCellsFrom]
    · replace e3 := e3.resolve_left (by omega)
      replace e4 := e4.resolve_left (by omega)
      have h0 := e5.resolve_left (by omega)
      have had : ad = ⟨L.j, L.d + o, none⟩ := by
        obtain ⟨q1, q2, q3⟩ := ad
        simp only at e3 e4 h0
        subst e3 e4 h0
        rfl
      rw [had]
      refine run_firstCells_some w' sz' len _ len cap' vs hvl fun j v hv => ?_
      rw [add_none]
      have := hcell j v hv
      unfold World.cell? at this ⊢
      rw [hw']
      exact this
  · rename_i s
    simp only [Option.some.injEq, Prod.mk.injEq] at h
    obtain ⟨rfl, rfl⟩ := h
    simp only [aElemSize, beq_iff_eq] at hs
    subst hs
    simp only [VR] at hx
    obtain ⟨b, rfl, rfl⟩ := hx
    have hbl : b.data.toList.length = b.size := by simp
    refine ⟨fun w' => by simp [Builtin.lenOf], b.data.map (fun c => Value.int .u8 c.toNat), fun w' _ => ?_, ?_, ?_, by simp⟩
    · rw [hbl]
      simp [Builtin.firstCells]
    · refine VRL.of_get (by simp) fun i x y hx hy => ?_
      simp only [Array.toList_map, List.getElem?_map, Option.map_eq_some_iff] at hx hy
      obtain ⟨u, hu, rfl⟩ := hx
      obtain ⟨u', hu', rfl⟩ := hy
      rw [hu] at hu'
      obtain rfl := Option.some.inj hu'
      simp [VR]
    · intro c hc
      obtain ⟨u, _, rfl⟩ := List.mem_map.1 hc
      rfl
  · cases h

theorem append_sound {P : Program} {ι : Inj} {M M' : Heap} {w : World} (r : R ι M w) {e : TypeId} {i : TypeInfo} {z : Value} {s v : AV} {sv : Value} (hs : VR ι s sv) {n : Nat} {new : List AV} {news : Array Value} (hnew : VRL ι new news.toList) (hc : ∀ a, a ∈ new → a.isCell = true) (hlen : new.length = n * i.size) (hsz : 0 < i.size) (hzs : z.cells.size = i.size)
    (h : aAppend i.size i.bytes s n new M = some (v, M')) {run : World → Result Value}
    (hroom : ∀ ad sLen sCap w', 0 < n → sv = .slice (some ad) sLen sCap → sLen + n ≤ sCap → (storeCells (ad.add (sLen * i.size)) news.toList).run P w = .ok () w' → run w = .ok (.slice (some ad) (sLen + n) sCap) w')
    (hmore : ∀ base sLen sCap olds, sv = .slice base sLen sCap → (∀ w', w'.heap = w.heap → (Builtin.firstCells i.size sLen (.slice base sLen sCap)).run P w' = .ok olds w') → 0 < n → sCap < sLen + n → ((sLen + n : Nat) : Int) ≤ 9223372036854775807 → n * i.bytes ≤ 281474976710656 → Builtin.nextslicecap (sLen + n) sCap * i.bytes ≤ 281474976710656 →
      run w = .ok (.slice (some ⟨w.heap.size, 0, none⟩) (sLen + n) (grownCap w (sLen + n) sCap e)) (w.drew.alloc (.cells (olds ++ news ++ madeCells z.cells ((grownCap w (sLen + n) sCap e - (sLen + n)) * z.cells.size)) e)))
    (hnothing : ∀ base sLen sCap, n = 0 → sv = .slice base sLen sCap → sLen ≤ sCap → run w = .ok (.slice base sLen sCap) w) :
    ∃ ι' v' w', run w = .ok v' w' ∧ VR ι' v v' ∧ Tr ι M w ι' M' w' := by
  have hnl : news.size = n * i.size := by have := hnew.length; simp at this; omega
  -- a new block, whatever the base
  have fresh : ∀ (base : Option Addr) (sLen sCap : Nat) (old : List AV) (olds : Array Value), sv = .slice base sLen sCap → (∀ w', w'.heap = w.heap → (Builtin.firstCells i.size sLen (.slice base sLen sCap)).run P w' = .ok olds w') → VRL ι old olds.toList → (∀ a, a ∈ old → a.isCell = true) → old.length = sLen * i.size → 0 < n → sCap < sLen + n →
      (sLen + n) * i.bytes ≤ 70368744177664 → sLen + n ≤ 70368744177664 → ∀ {M1 : Heap}, R ι M1 w → M1.next = M.next → ∃ ι' v' w', run w = .ok v' w' ∧ VR ι' (.slice (some (M.next, 0)) i.size (sLen + n) (sLen + n) false) v' ∧ Tr ι M1 w ι' (M1.push (.cells (old ++ new) false true)) w' := by
    intro base sLen sCap old olds hsv hold ho1 ho2 ho3 hn0 hg hb1 hb2 M1 r1 hnext
    have hb3 : n * i.bytes ≤ (sLen + n) * i.bytes := Nat.mul_le_mul_right _ (by omega)
    have hrun := hmore base sLen sCap olds hsv hold hn0 hg (by omega) (by omega) (growslice_fits hg (by omega))
    have hcap : sLen + n ≤ grownCap w (sLen + n) sCap e := by simp only [grownCap, Question.cut]; omega
    have hos : olds.size = sLen * i.size := by have := ho1.length; simp at this; omega
    have hmul : (sLen + n) * i.size = sLen * i.size + n * i.size := Nat.add_mul _ _ _
    have hmul2 : grownCap w (sLen + n) sCap e * i.size = (sLen + n) * i.size + (grownCap w (sLen + n) sCap e - (sLen + n)) * i.size := by rw [← Nat.add_mul]; congr 1; omega
    have htot : (olds ++ news ++ madeCells z.cells ((grownCap w (sLen + n) sCap e - (sLen + n)) * z.cells.size)).size = grownCap w (sLen + n) sCap e * i.size := by
      simp only [Array.size_append, size_madeCells, hzs]
      omega
    have hnone := (r1.fresh M1.next (Nat.le_refl _)).2
    refine ⟨_, _, _, hrun, ?_, Tr.push r1 rfl (Made.drew_alloc _ _) (BR.new (cs := old ++ new) ⟨(sLen + n) * i.size, ?_, ?_, fun h => by cases h⟩ ?_ ⟨.inl rfl, fun _ => rfl⟩)⟩
    · simp only [VR]
      refine ⟨_, _, _, by rw [hnext]; simp [Inj.set]; rfl, rfl, .inr rfl, .inr rfl, .inr rfl, Nat.le_refl _, hcap, (fun h => by cases h), ?_, hsz⟩
      have h1 := htot
      simp only [Array.size_append] at h1 ⊢
      omega
    · have e1 : (olds ++ news ++ madeCells z.cells ((grownCap w (sLen + n) sCap e - (sLen + n)) * z.cells.size)).toList.take ((sLen + n) * i.size) = olds.toList ++ news.toList := by
        simp only [Array.toList_append]
        rw [List.take_append_of_le_length (by simp; omega), List.take_of_length_le (by simp; omega)]
      rw [e1]
      have hle := Inj.set_le hnone ⟨w.heap.size, 0, (olds ++ news ++ madeCells z.cells ((grownCap w (sLen + n) sCap e - (sLen + n)) * z.cells.size)).size⟩
      exact (ho1.append hnew).mono hle
    · rw [htot]; omega
    · intro c hcm
      rcases List.mem_append.1 hcm with hcm | hcm
      · exact ho2 c hcm
      · exact hc c hcm
  unfold aAppend at h
  split at h
  case h_2 => cases h
  rename_i a sz' len cap ex
  split at h
  · cases h
  rename_i hasz
  split at h
  · -- surely room
    rename_i hroomy
    cases a with
    | none =>
      simp only at h
      split at h
      case isFalse => cases h
      rename_i hn0
      simp only [Option.some.injEq, Prod.mk.injEq] at h
      obtain ⟨rfl, rfl⟩ := h
      have hs' := hs
      simp only [VR] at hs'
      obtain ⟨rfl, rfl, rfl, rfl⟩ := hs'
      refine ⟨ι, _, w, hnothing none 0 0 hn0 rfl (Nat.le_refl _), ?_, Tr.refl r⟩
      simp [VR]
    | some p =>
      obtain ⟨b, o⟩ := p
      obtain rfl : sz' = i.size := by simpa using hasz
      have hs' := hs
      simp only [VR] at hs'
      obtain ⟨L, ad, cap', e1, rfl, e3, e4, e5, e6, e7, e8, e9, e10⟩ := hs'
      simp only at h
      split at h
      · rename_i hn0
        simp only [Option.some.injEq, Prod.mk.injEq] at h
        obtain ⟨rfl, rfl⟩ := h
        exact ⟨ι, _, w, hnothing _ _ _ hn0 rfl (by omega), hs, Tr.refl r⟩
      · rename_i hn0
        obtain ⟨M1, hM, h⟩ := Option.map_eq_some_iff.1 h
        simp only [Prod.mk.injEq] at h
        obtain ⟨rfl, rfl⟩ := h
        obtain ⟨l, w', hl, hrun, htr⟩ := write_run (P := P) r hM hnew hc
        rw [e1] at hl
        obtain rfl := Option.some.inj hl
        replace e3 := e3.resolve_left (by omega)
        replace e4 := e4.resolve_left (by omega)
        have h0 := e5.resolve_left (by omega)
        have had : ad = ⟨L.j, L.d + o, none⟩ := by
          obtain ⟨q1, q2, q3⟩ := ad
          simp only at e3 e4 h0
          subst e3 e4 h0
          rfl
        subst had
        refine ⟨ι, _, w', hroom _ _ _ w' (by omega) rfl (by omega) ?_, ?_, htr⟩
        · rw [add_none]
          rw [← Nat.add_assoc] at hrun
          exact hrun
        · simp only [VR]
          exact ⟨L, _, cap', e1, rfl, .inr rfl, .inr rfl, .inr rfl, by omega, e7, e8, e9, e10⟩
  · rename_i hnoroom
    split at h
    case isFalse => cases h
    rename_i hbounds
    cases a with
    | none =>
      simp only [Option.some.injEq, Prod.mk.injEq] at h
      obtain ⟨rfl, rfl⟩ := h
      have hs' := hs
      simp only [VR] at hs'
      obtain ⟨rfl, rfl, rfl, rfl⟩ := hs'
      have := fresh none 0 0 [] #[] rfl (fun w' _ => by simp [Builtin.firstCells]) (by simp [VRL]) (by simp) (by simp) (by omega) (by omega) hbounds.1 hbounds.2 r rfl
      simpa using this
    | some p =>
      obtain ⟨b, o⟩ := p
      obtain rfl : sz' = i.size := by simpa using hasz
      obtain ⟨old, hold, h⟩ := Option.bind_eq_some_iff.1 h
      have hs' := hs
      simp only [VR] at hs'
      obtain ⟨L, ad, cap', e1, rfl, e3, e4, e5, e6, e7, e8, e9, e10⟩ := hs'
      have hel : ∃ olds : Array Value, (∀ w', w'.heap = w.heap → (Builtin.firstCells i.size len (.slice (some ad) len cap')).run P w' = .ok olds w') ∧ VRL ι old olds.toList ∧ (∀ a, a ∈ old → a.isCell = true) ∧ old.length = len * i.size := by
        have := (elems_run (P := P) r hs (sz := i.size) (n := len) (new := old) (by simp [aElemSize]) (by
          simp only [aElems]
          by_cases h0 : len = 0
          · have : old = [] := by
              split at hold
              · exact (Option.some.inj hold).symm
              · have := (r.read hold).1
                rw [h0] at this
                simpa using this
            simp [h0, this]
          · rw [if_neg (fun hx => h0 hx.2)] at hold
            simp [h0, hold])).2
        exact this
      obtain ⟨olds, ho1, ho2, ho3, ho4⟩ := hel
      split at h
      · rename_i hex
        simp only [Option.some.injEq, Prod.mk.injEq] at h
        obtain ⟨rfl, rfl⟩ := h
        have := e8 hex
        exact fresh (some ad) len cap' old olds rfl ho1 ho2 ho3 ho4 (by omega) (by omega) hbounds.1 hbounds.2 r rfl
      · split at h
        case h_2 => cases h
        rename_i c sl hb
        simp only [Option.some.injEq, Prod.mk.injEq] at h
        obtain ⟨rfl, rfl⟩ := h
        have hblt := r.lt hb
        rcases Nat.lt_or_ge cap' (len + n) with hg | hg
        · have hk := Tr.kill r b hblt
          obtain ⟨ι', v', w', q1, q2, q3⟩ := fresh (some ad) len cap' old olds rfl ho1 ho2 ho3 ho4 (by omega) hg hbounds.1 hbounds.2 hk.rel rfl
          exact ⟨ι', v', w', q1, q2, hk.trans q3⟩
        · -- there is room
          replace e3 := e3.resolve_left (by omega)
          replace e4 := e4.resolve_left (by omega)
          have h0 := e5.resolve_left (by omega)
          have had : ad = ⟨L.j, L.d + o, none⟩ := by
            obtain ⟨q1, q2, q3⟩ := ad
            simp only at e3 e4 h0
            subst e3 e4 h0
            rfl
          subst had
          have hmul : (len + n) * i.size = len * i.size + n * i.size := Nat.add_mul _ _ _
          have hmul2 : (len + n) * i.size ≤ cap' * i.size := Nat.mul_le_mul_right _ hg
          have hnpos : 0 < n * i.size := Nat.mul_pos (by omega) hsz
          obtain ⟨w', cs, cs', elem, fz, g1, g2, g3, g4, g5⟩ := write_loc (P := P) r hb e1 (o := o + len * i.size) (vs := news.toList) (by intro hn; have := congrArg List.length hn; simp at this; simp [this] at hnl; omega) (by simp; omega) (hnew.oneCell hc)
          rw [← Nat.add_assoc] at g1
          have hrun := hroom _ _ _ w' (by omega) rfl hg (by rw [add_none]; exact g1)
          have hnone := (r.fresh M.next (Nat.le_refl _)).2
          have hle := Inj.set_le hnone ⟨L.j, L.d + o, L.N - o⟩
          refine ⟨_, _, w', hrun, ?_, Tr.rename (l' := ⟨L.j, L.d + o, L.N - o⟩) r hb rfl rfl e1 rfl g3 ?_⟩
          · simp only [VR]
            refine ⟨⟨L.j, L.d + o, L.N - o⟩, ⟨L.j, L.d + o, none⟩, cap', by simp [Inj.set], rfl, .inr rfl, .inr rfl, .inr rfl, Nat.le_refl _, hg, (fun h => by cases h), ?_, hsz⟩
            simp only
            omega
          · obtain ⟨cs0, elem0, fz0, eq0, b2, b3, b4, b5, b6⟩ := g5
            obtain ⟨rfl, rfl, rfl⟩ : cs0 = cs ∧ elem0 = elem ∧ fz0 = fz := by injection eq0 with e1 e2 e3; exact ⟨e1.symm, e2.symm, e3.symm⟩
            have hsz' : cs'.size = cs0.size := by
              have := congrArg List.length g4
              simp at this
              omega
            -- the old cells, too, as they are read
            obtain ⟨_, _, l0, vs0, hl0, hr0, hcell0⟩ := r.read (b := b) (o := o) (cs := old) (n := len * i.size) (by
              rw [if_neg (fun hx => absurd hx.1 ‹¬ex = true›)] at hold
              exact hold)
            rw [e1] at hl0
            obtain rfl := Option.some.inj hl0
            refine ⟨cs', elem0, fz0, rfl, by simp only; omega, by simp; omega, (fun h => by cases h), fun k a hk => ?_, fun _ => by rw [hsz']; exact ⟨(b6 rfl).1, fun h => by cases h⟩⟩
            simp only
            rw [List.getElem?_append] at hk
            split at hk
            · rename_i hk1
              obtain ⟨v0, hv0, hvr⟩ := hr0.get k a hk
              refine ⟨v0, ?_, ho3 a (List.mem_of_getElem? hk), hvr.mono hle⟩
              have hcl := hcell0 k v0 hv0
              simp [World.cell?, g2] at hcl
              have hlt := (Array.getElem?_eq_some_iff.1 hcl).1
              rw [← Array.getElem?_toList, g4, List.append_assoc, List.getElem?_append_left (by simp; omega), List.getElem?_take, if_pos (by omega), Array.getElem?_toList]
              exact hcl
            · rename_i hk1
              obtain ⟨v0, hv0, hvr⟩ := hnew.get _ a hk
              have hlt := (List.getElem?_eq_some_iff.1 hv0).1
              refine ⟨v0, ?_, hc a (List.mem_of_getElem? hk), hvr.mono hle⟩
              rw [← Array.getElem?_toList, g4, List.append_assoc, List.getElem?_append_right (by simp; omega), List.getElem?_append_left (by simp at hlt ⊢; omega)]
              have : L.d + o + k - (cs0.toList.take (L.d + (o + len * i.size))).length = k - old.length := by simp; omega
              rw [this]
              exact hv0

end Go.Proofs.Ytlcjmchhnbdepaa
end

section
/- The abstract machine, eighth part: append, copy and clear as operations. -/
set_option linter.unusedVariables false
set_option linter.unusedSimpArgs false
namespace Go.Proofs.Ytlcjmchhnbdepaa

theorem zero_info {P : Program} {t : TypeId} {zero : List AV} {i : TypeInfo} (hz : zeroOf P t = some zero) (hi : P.info? t = some i) : ∃ z, i.zero = some z ∧ (∀ ι, VRL ι zero z.cells.toList) ∧ ∀ a, a ∈ zero → a.isCell = true := by
  unfold zeroOf at hz
  split at hz
  case h_2 => cases hz
  rename_i z hz2
  obtain ⟨it, hit, hz3⟩ := Option.bind_eq_some_iff.1 hz2
  rw [hi] at hit
  obtain rfl := Option.some.inj hit
  exact ⟨z, hz3, fun ι => (ofScalars_VR ι hz).1, (ofScalars_VR (fun _ => none) hz).2⟩

theorem NOk.append {P : Program} {C : ACalls} {o : Oper} {t u elem : TypeId} {i : TypeInfo} {zero : List AV} {x y : Operand} {ax ay : AX} (ho : o.op = .call { callee := .builtin .append, args := #[x, y], argTypes := #[t, u] }) (ht : P.underlying t = some (.slice elem)) (hu : P.underlying u = some .string ∨ ∃ e', P.underlying u = some (.slice e'))
    (hi : P.info? elem = some i) (hsz : 0 < i.size) (hz : zeroOf P elem = some zero) (hzl : zero.length = i.size) (hx : cX x = some ax) (hy : cX y = some ay) : NOk P C o (.append i.size i.bytes ax ay) := by
  intro ι M e a w v M' next Q r he h hnext
  have h1 := cX_VR hx he
  have h2 := cX_VR hy he
  simp only [aN] at h
  split at h
  case isFalse => cases h
  rename_i hes
  obtain ⟨⟨n, new⟩, hel, h⟩ := Option.bind_eq_some_iff.1 h
  obtain ⟨z, hz1, hz2, hz3⟩ := zero_info hz hi
  have hzs : z.cells.size = i.size := by have := (hz2 ι).length; simp at this; omega
  obtain ⟨g1, news, g2, g3, g4, g5⟩ := elems_run (P := P) r h2 hes hel
  obtain ⟨ι', v', w', q1, q2, q3⟩ := append_sound (P := P) (e := elem) r h1 g3 g4 g5 hsz hzs h (run := fun w => (Builtin.append_ #[t, u] o.type #[a.eval x, a.eval y]).run P w)
    (fun ad sLen sCap w' hn hsv hle hst => by
      simp only [hsv]
      exact run_append_room (P := P) w t u o.type elem i ht hu hi ad sLen sCap n (a.eval y) news w' g1 (g2 w rfl) hle hst)
    (fun base sLen sCap olds hsv hold hn hg h63 hb hfit => by
      simp only [hsv]
      exact run_append_more (P := P) w t u o.type elem i z ht hu hi hz1 base sLen sCap n (a.eval y) olds news hold g1 g2 hg h63 hfit)
    (fun base sLen sCap hn hsv hle => by
      subst hn
      simp only [hsv]
      have hnew : news = #[] := by
        have := g3.length
        simp at g5 this
        simp [g5] at this
        exact Array.eq_empty_of_size_eq_zero this.symm
      exact run_append_nothing (P := P) w t u o.type elem i ht hu hi base sLen sCap (a.eval y) g1 (by rw [← hnew]; exact g2 w rfl) hle)
  refine NOk.of_run (w' := w') (v := v') ?_ (hnext ι' v' w' q3 q2)
  simp only [execOp, ho]
  simp [resolve, invoke, builtin, q1]

theorem NOk.appendZ {P : Program} {C : ACalls} {o : Oper} {t u elem : TypeId} {i : TypeInfo} {zero : List AV} {x y : Operand} {ax ay : AX} (ho : o.op = .call { callee := .builtin .append, args := #[x, y], argTypes := #[t, u] }) (ht : P.underlying t = some (.slice elem)) (hu : ∃ k, P.underlying u = some (.int k))
    (hi : P.info? elem = some i) (hsz : 0 < i.size) (hz : zeroOf P elem = some zero) (hzl : zero.length = i.size) (hx : cX x = some ax) (hy : cX y = some ay) : NOk P C o (.appendZ i.size i.bytes zero ax ay) := by
  intro ι M e a w v M' next Q r he h hnext
  have h1 := cX_VR hx he
  have h2 := cX_VR hy he
  simp only [aN] at h
  split at h
  case h_2 => cases h
  rename_i kk n hc
  rw [hc] at h2
  simp only [VR] at h2
  split at h
  case isFalse => cases h
  rename_i hn
  obtain ⟨m, rfl⟩ := Int.eq_ofNat_of_zero_le (Int.le_of_lt hn.1)
  simp only [Int.toNat_natCast] at h hn
  obtain ⟨z, hz1, hz2, hz3⟩ := zero_info hz hi
  have hzs : z.cells.size = i.size := by have := (hz2 ι).length; simp at this; omega
  have hb : m * i.bytes ≤ 281474976710656 := by rw [Nat.mul_comm]; exact hn.2.2
  obtain ⟨ι', v', w', q1, q2, q3⟩ := append_sound (P := P) (e := elem) (z := z) r h1 (reps_VR (hz2 ι) m) (fun c hc => hz3 c (reps_mem hc)) (by rw [reps_length, hzl]) hsz hzs h (run := fun w => (Builtin.append_ #[t, u] o.type #[a.eval x, a.eval y]).run P w)
    (fun ad sLen sCap w' hn0 hsv hle hst => by
      simp only [hsv, h2]
      exact run_append_room_zeros (P := P) w t u o.type elem i z ht hu hi hz1 ad sLen sCap m kk w' hsz (by omega) hb hn0 hle hst)
    (fun base sLen sCap olds hsv hold hn0 hg h63 hb' hfit => by
      simp only [hsv, h2]
      exact run_append_more_zeros (P := P) w t u o.type elem i z ht hu hi hz1 base sLen sCap m kk olds hold hsz hzs hn0 hg h63 hb' hfit)
    (fun base sLen sCap hn0 hsv hle => by omega)
  refine NOk.of_run (w' := w') (v := v') ?_ (hnext ι' v' w' q3 q2)
  simp only [execOp, ho]
  simp [resolve, invoke, builtin, q1]

/-- The first of the elements. -/
theorem elems_take {P : Program} {ι : Inj} {M : Heap} {w : World} (r : R ι M w) {x : AV} {v : Value} (hx : VR ι x v) {sz n : Nat} {new : List AV} (hs : aElemSize x sz = true) (h : aElems x M = some (n, new)) (m : Nat) (hm : m ≤ n) :
    ∃ news : Array Value, (Builtin.firstCells sz m v).run P w = .ok news w ∧ VRL ι (new.take (m * sz)) news.toList := by
  unfold aElems at h
  split at h
  · rename_i sz' len cap ex
    simp only [Option.some.injEq, Prod.mk.injEq] at h
    obtain ⟨rfl, rfl⟩ := h
    simp only [VR] at hx
    obtain ⟨rfl, rfl, _⟩ := hx
    exact ⟨#[], by simp [Builtin.firstCells], by simp [VRL]⟩
  · rename_i b o sz' len cap ex
    split at h
    · rename_i h0
      subst h0
      simp only [Option.some.injEq, Prod.mk.injEq] at h
      obtain ⟨rfl, rfl⟩ := h
      simp only [VR] at hx
      obtain ⟨L, ad, cap', e1, rfl, e3, e4, e5, e6, e7, e8, e9, e10⟩ := hx
      obtain rfl : m = 0 := by omega
      exact ⟨#[], by simp [Builtin.firstCells, loadCells, loadCellsFrom], by simp [VRL]⟩
    rename_i hlen0
    obtain ⟨cs, hcs, h⟩ := Option.map_eq_some_iff.1 h
    simp only [Prod.mk.injEq] at h
    obtain ⟨rfl, rfl⟩ := h
    simp only [aElemSize, beq_iff_eq] at hs
    subst hs
    simp only [VR] at hx
    obtain ⟨L, ad, cap', e1, rfl, e3, e4, e5, e6, e7, e8, e9, e10⟩ := hx
    obtain ⟨hlen, hc, l, vs, hl, hr, hcell⟩ := r.read hcs
    rw [e1] at hl
    obtain rfl := Option.some.inj hl
    have hvl : vs.length = len * sz' := by rw [← hr.length, hlen]
    have hmul : m * sz' ≤ len * sz' := Nat.mul_le_mul_right _ hm
    refine ⟨(vs.take (m * sz')).toArray, ?_, by simpa using hr.take (m * sz')⟩
    rcases Nat.eq_zero_or_pos cap' with h0 | hpos
    · obtain rfl : len = 0 := by omega
      obtain rfl : m = 0 := by omega
      simp [Builtin.firstCells, loadCells, loadCellsFrom]
    · replace e3 := e3.resolve_left (by omega)
      replace e4 := e4.resolve_left (by omega)
      have h0 := e5.resolve_left (by omega)
      have had : ad = ⟨L.j, L.d + o, none⟩ := by
        obtain ⟨q1, q2, q3⟩ := ad
        simp only at e3 e4 h0
        subst e3 e4 h0
        rfl
      rw [had]
      refine run_firstCells_some w sz' m _ len cap' (vs.take (m * sz')) (by simp; omega) fun j v hv => ?_
      rw [add_none]
      simp only [List.getElem?_take] at hv
      split at hv
      case isFalse => cases hv
      exact hcell j v hv
  · rename_i s
    simp only [Option.some.injEq, Prod.mk.injEq] at h
    obtain ⟨rfl, rfl⟩ := h
    simp only [aElemSize, beq_iff_eq] at hs
    subst hs
    simp only [VR] at hx
    obtain ⟨b, rfl, rfl⟩ := hx
    have hbl : b.data.toList.length = b.size := by simp
    refine ⟨((b.extract 0 m).data.map fun c => Value.int .u8 c.toNat), by simp [Builtin.firstCells], ?_⟩
    have e : (b.extract 0 m).data.toList = b.data.toList.take m := by
      obtain ⟨⟨bl⟩⟩ := b
      rw [ByteArray.extract_mk]
      simp
    rw [Array.toList_map, e, Nat.mul_one, ← List.map_take]
    refine VRL.of_get (by simp) fun i x y hx hy => ?_
    simp only [List.getElem?_map, Option.map_eq_some_iff] at hx hy
    obtain ⟨u, hu, rfl⟩ := hx
    obtain ⟨u', hu', rfl⟩ := hy
    rw [hu] at hu'
    obtain rfl := Option.some.inj hu'
    simp [VR]
  · cases h

theorem few_run {P : Program} {ι : Inj} {M : Heap} {w : World} (r : R ι M w) {x : AV} {v : Value} (hx : VR ι x v) {sz m k : Nat} {cs : List AV} (hs : aElemSize x sz = true) (hm : aSize x = some m) (hk : k ≤ m) (h : aFew x k M = some cs) :
    (∀ w', (Builtin.lenOf v).run P w' = .ok m w') ∧ ∃ news : Array Value, (Builtin.firstCells sz k v).run P w = .ok news w ∧ VRL ι cs news.toList ∧ (∀ a, a ∈ cs → a.isCell = true) ∧ cs.length = k * sz := by
  unfold aSize at hm
  split at hm
  · rename_i p sz' len cap ex
    obtain rfl := Option.some.inj hm
    cases p with
    | none =>
      simp only [aFew, Option.some.injEq] at h
      subst h
      simp only [aElemSize, beq_iff_eq] at hs
      subst hs
      simp only [VR] at hx
      obtain ⟨rfl, _⟩ := hx
      obtain rfl : k = 0 := by omega
      exact ⟨fun w' => by simp [Builtin.lenOf], #[], by simp [Builtin.firstCells], by simp [VRL], by simp, by simp⟩
    | some q =>
      obtain ⟨b, o⟩ := q
      simp only [aElemSize, beq_iff_eq] at hs
      subst hs
      simp only [aFew] at h
      simp only [VR] at hx
      obtain ⟨L, ad, cap', e1, rfl, e3, e4, e5, e6, e7, e8, e9, e10⟩ := hx
      refine ⟨fun w' => by simp [Builtin.lenOf], ?_⟩
      split at h
      · rename_i h0
        subst h0
        obtain rfl := Option.some.inj h
        exact ⟨#[], by simp [Builtin.firstCells, loadCells, loadCellsFrom], by simp [VRL], by simp, by simp⟩
      rename_i h0
      obtain ⟨hlen, hc, l, vs, hl, hr, hcell⟩ := r.read h
      rw [e1] at hl
      obtain rfl := Option.some.inj hl
      have hvl : vs.length = k * sz' := by rw [← hr.length, hlen]
      replace e3 := e3.resolve_left (by omega)
      replace e4 := e4.resolve_left (by omega)
      have h1 := e5.resolve_left (by omega)
      have had : ad = ⟨L.j, L.d + o, none⟩ := by
        obtain ⟨q1, q2, q3⟩ := ad
        simp only at e3 e4 h1
        subst e3 e4 h1
        rfl
      refine ⟨vs.toArray, ?_, by simpa using hr, hc, hlen⟩
      rw [had]
      refine run_firstCells_some w sz' k _ len cap' vs hvl fun j v hv => ?_
      rw [add_none]
      exact hcell j v hv
  · rename_i s
    obtain rfl := Option.some.inj hm
    simp only [aElemSize, beq_iff_eq] at hs
    subst hs
    simp only [aFew, Option.some.injEq] at h
    subst h
    simp only [VR] at hx
    obtain ⟨b, rfl, rfl⟩ := hx
    have hbl : b.data.toList.length = b.size := by simp
    refine ⟨fun w' => by simp [Builtin.lenOf], ((b.extract 0 k).data.map fun c => Value.int .u8 c.toNat), by simp [Builtin.firstCells], ?_, ?_, by simp at hk ⊢; omega⟩
    · have e : (b.extract 0 k).data.toList = b.data.toList.take k := by
        obtain ⟨⟨bl⟩⟩ := b
        rw [ByteArray.extract_mk]
        simp
      rw [Array.toList_map, e, ← List.map_take]
      refine VRL.of_get (by simp) fun i x y hx hy => ?_
      simp only [List.getElem?_map, Option.map_eq_some_iff] at hx hy
      obtain ⟨u, hu, rfl⟩ := hx
      obtain ⟨u', hu', rfl⟩ := hy
      rw [hu] at hu'
      obtain rfl := Option.some.inj hu'
      simp [VR]
    · intro a ha
      obtain ⟨u, _, rfl⟩ := List.mem_map.1 (List.mem_of_mem_take ha)
      rfl
  · cases hm

/-- Laid within a region. -/
theorem lay_run {P : Program} {ι : Inj} {M M' : Heap} {w : World} (r : R ι M w) {b o : Nat} {new : List AV} (h : M.lay b o new = some M') {l : Loc} (hl : ι b = some l) (hroom : o + new.length ≤ l.N) {vs : List Value} (hnew : VRL ι new vs) (hc : ∀ a, a ∈ new → a.isCell = true) (hne : vs ≠ []) :
    ∃ w', (storeCells ⟨l.j, l.d + o, none⟩ vs).run P w = .ok () w' ∧ Tr ι M w ι M' w' := by
  unfold Heap.lay at h
  split at h
  case h_2 => cases h
  rename_i c sl hb
  split at h
  case isFalse => cases h
  rename_i hle
  obtain rfl := Option.some.inj h
  have hvl := hnew.length
  obtain ⟨w', cs, cs', elem, fz, g1, g2, g3, g4, g5⟩ := write_loc (P := P) r hb hl (o := o) hne (by omega) (hnew.oneCell hc)
  have hbr := g5
  obtain ⟨_, _, _, _, _, hN, h4, _⟩ := hbr
  have ho : o ≤ c.length := by omega
  refine ⟨w', g1, Tr.update r hb rfl rfl hl g3 (BR.seg id g5 hnew hc (by omega) g4 (by simp; omega) (fun hs => ?_) ?_)⟩
  · have := h4 hs
    have : o + new.length ≤ c.length := by
      rcases hle with q | ⟨q, _⟩
      · exact q
      · rw [hs] at q; cases q
    simp
    omega
  · intro i a hi
    rw [List.append_assoc, List.getElem?_append] at hi
    split at hi
    · rename_i h1
      simp at h1
      rw [List.getElem?_take, if_pos (by omega)] at hi
      exact .inr ⟨.inl (by omega), hi⟩
    · rename_i h1
      simp at h1
      have htl : (c.take o).length = o := by simp; omega
      rw [htl, List.getElem?_append] at hi
      split at hi
      · rename_i h2
        exact .inl ⟨by omega, by omega, hi⟩
      · rename_i h2
        rw [List.getElem?_drop] at hi
        refine .inr ⟨.inr (by omega), ?_⟩
        rw [← hi]
        congr 1
        omega

theorem NOk.copy {P : Program} {C : ACalls} {o : Oper} {t u elem : TypeId} {sz : Nat} {x y : Operand} {ax ay : AX} (ho : o.op = .call { callee := .builtin .copy, args := #[x, y], argTypes := #[t, u] }) (ht : P.underlying t = some (.slice elem))
    (hsz : szOf P elem = some sz) (hx : cX x = some ax) (hy : cX y = some ay) : NOk P C o (.copy sz ax ay) := by
  intro ι M e a w v M' next Q r he h hnext
  have h1 := cX_VR hx he
  have h2 := cX_VR hy he
  simp only [aN] at h
  unfold aCopy at h
  split at h
  case h_2 => cases h
  rename_i p sz' len cap ex hc
  rw [hc] at h1
  split at h
  case isFalse => cases h
  rename_i hcond
  obtain ⟨n, hsn, h⟩ := Option.bind_eq_some_iff.1 h
  simp only at h
  obtain ⟨new, hfew, h⟩ := Option.bind_eq_some_iff.1 h
  obtain ⟨g1, news, k1, k2, g4, g5⟩ := few_run (P := P) r h2 hcond.2 hsn (Nat.min_le_left n len) hfew
  cases p with
  | none =>
    simp only [Option.some.injEq, Prod.mk.injEq] at h
    obtain ⟨rfl, rfl⟩ := h
    simp only [VR] at h1
    obtain ⟨h1, rfl, _⟩ := h1
    refine NOk.of_run (w' := w) (v := .int .i64 (min n 0 : Nat)) ?_ (hnext ι _ w (Tr.refl r) (by simp [VR]))
    simp only [execOp, ho]
    simp [resolve, invoke, builtin, Builtin.copy_, h1, run_underlying ht, run_sz hsz, g1]
    have := k1
    simp at this
    simp [this, goInt]
  | some q =>
    obtain ⟨b, off⟩ := q
    obtain rfl : sz' = sz := by simpa using hcond.1
    simp only [VR] at h1
    obtain ⟨L, ad, cap', e1, h1, e3, e4, e5, e6, e7, e8, e9, e10⟩ := h1
    simp only at h
    split at h
    · rename_i hn0
      simp only [Option.some.injEq, Prod.mk.injEq] at h
      obtain ⟨rfl, rfl⟩ := h
      rw [hn0] at k1 g5
      have hne : news = #[] := by
        have := k2.length
        simp [g5] at this
        exact Array.eq_empty_of_size_eq_zero this.symm
      subst hne
      refine NOk.of_run (w' := w) (v := .int .i64 (min n len : Nat)) ?_ (hnext ι _ w (Tr.refl r) (by simp [VR]))
      simp only [execOp, ho]
      simp [resolve, invoke, builtin, Builtin.copy_, h1, run_underlying ht, run_sz hsz, g1, hn0, k1, storeCells, goInt]
    · rename_i hn0
      obtain ⟨M1, hM, h⟩ := Option.map_eq_some_iff.1 h
      simp only [Prod.mk.injEq] at h
      obtain ⟨rfl, rfl⟩ := h
      have hmul : min n len * sz' ≤ cap' * sz' := Nat.mul_le_mul_right _ (by omega)
      obtain ⟨w', hrun, htr⟩ := lay_run (P := P) r hM e1 (by rw [g5]; omega) k2 g4 (fun e => by
        have := k2.length
        rw [e, g5] at this
        have : 0 < min n len * sz' := Nat.mul_pos (by omega) e10
        simp at *
        omega)
      replace e3 := e3.resolve_left (by omega)
      replace e4 := e4.resolve_left (by omega)
      have h0 := e5.resolve_left (by omega)
      have had : ad = ⟨L.j, L.d + off, none⟩ := by
        obtain ⟨q1, q2, q3⟩ := ad
        simp only at e3 e4 h0
        subst e3 e4 h0
        rfl
      subst had
      refine NOk.of_run (w' := w') (v := .int .i64 (min n len : Nat)) ?_ (hnext ι _ w' htr (by simp [VR]))
      simp only [execOp, ho]
      simp [resolve, invoke, builtin, Builtin.copy_, h1, run_underlying ht, run_sz hsz, g1, k1, hrun, goInt]

theorem NOk.clear {P : Program} {C : ACalls} {o : Oper} {t elem : TypeId} {sz : Nat} {zero : List AV} {x : Operand} {ax : AX} (ho : o.op = .call { callee := .builtin .clear, args := #[x], argTypes := #[t] }) (ht : P.underlying t = some (.slice elem))
    (hsz : szOf P elem = some sz) (hz : zeroOf P elem = some zero) (hzl : zero.length = sz) (hx : cX x = some ax) : NOk P C o (.clear sz zero ax) := by
  intro ι M e a w v M' next Q r he h hnext
  have h1 := cX_VR hx he
  simp only [aN] at h
  unfold aClear at h
  split at h
  case h_3 => cases h
  · rename_i hc
    simp only [Option.some.injEq, Prod.mk.injEq] at h
    obtain ⟨rfl, rfl⟩ := h
    rw [hc] at h1
    simp only [VR] at h1
    obtain ⟨h1, _⟩ := h1
    refine NOk.of_run (w' := w) (v := .tuple #[]) ?_ (hnext ι _ w (Tr.refl r) (by simp [VR, VRL]))
    simp only [execOp, ho]
    simp [resolve, invoke, builtin, Builtin.clear_, h1, run_underlying ht]
  · rename_i b off sz' len cap ex hc
    rw [hc] at h1
    simp only [VR] at h1
    obtain ⟨L, ad, cap', e1, h1, e3, e4, e5, e6, e7, e8, e9, e10⟩ := h1
    split at h
    case isFalse => cases h
    rename_i hss
    subst hss
    split at h
    · rename_i hl0
      subst hl0
      simp only [Option.some.injEq, Prod.mk.injEq] at h
      obtain ⟨rfl, rfl⟩ := h
      refine NOk.of_run (w' := w) (v := .tuple #[]) ?_ (hnext ι _ w (Tr.refl r) (by simp [VR, VRL]))
      simp only [execOp, ho]
      simp [resolve, invoke, builtin, Builtin.clear_, h1, run_underlying ht]
    · rename_i hl0
      obtain ⟨M1, hM, h⟩ := Option.map_eq_some_iff.1 h
      simp only [Prod.mk.injEq] at h
      obtain ⟨rfl, rfl⟩ := h
      obtain ⟨z, hz1, hz2, hz3⟩ := run_zero (P := P) hz w
      obtain ⟨l, w', hl, hrun, htr⟩ := write_run (P := P) r hM (reps_VR (hz2 ι) len) (fun c hc => hz3 c (reps_mem hc))
      rw [e1] at hl
      obtain rfl := Option.some.inj hl
      replace e3 := e3.resolve_left (by omega)
      replace e4 := e4.resolve_left (by omega)
      have h0 := e5.resolve_left (by omega)
      have had : ad = ⟨L.j, L.d + off, none⟩ := by
        obtain ⟨q1, q2, q3⟩ := ad
        simp only at e3 e4 h0
        subst e3 e4 h0
        rfl
      subst had
      refine NOk.of_run (w' := w') (v := .tuple #[]) ?_ (hnext ι _ w' htr (by simp [VR, VRL]))
      obtain ⟨m, rfl⟩ : ∃ m, len = m + 1 := ⟨len - 1, by omega⟩
      simp only [execOp, ho]
      simp [resolve, invoke, builtin, Builtin.clear_, h1, run_underlying ht, hz1, zeroCells_eq, hrun]

theorem NOk.cvBytes {P : Program} {C : ACalls} {o : Oper} {t elem : TypeId} {x : Operand} {ax : AX} (ho : o.op = .convert t t x) (ht : P.underlying t = some (.slice elem)) (he8 : P.underlying elem = some (.int .u8)) (hx : cX x = some ax) : NOk P C o (.cvBytes ax) := by
  intro ι M e a w v M' next Q r he h hnext
  have h1 := cX_VR hx he
  simp only [aN] at h
  unfold aCvBytes at h
  split at h
  case h_2 => cases h
  rename_i b off sz len cap ex hc
  split at h
  · cases h
  rename_i hcap
  split at h
  case h_2 => cases h
  rename_i c sl hb
  simp only [Option.some.injEq, Prod.mk.injEq] at h
  obtain ⟨rfl, rfl⟩ := h
  rw [hc] at h1
  have h1' := h1
  simp only [VR] at h1
  obtain ⟨L, ad, cap', e1, h1, e3, e4, e5, e6, e7, e8, e9, e10⟩ := h1
  have e3 := e3.resolve_left (by omega)
  obtain ⟨l', ob, hl', hob, cs, el, fz, rfl, b2, b3, b4, b5, b6⟩ := r.blk b _ hb
  rw [e1] at hl'
  obtain rfl := Option.some.inj hl'
  have hsh : w.shape? ad.block = some (el, cs.size) := by
    unfold World.shape?
    rw [e3, hob]
  have htr : Tr ι M w ι (M.put b (some (.cells c false true))) (w.freeze { block := ad.block, off := cs.size } 1) := by
    refine Tr.update (l := L) (ob := .cells cs el (if fz.1 == fz.2 then (cs.size, cs.size + 1) else (min fz.1 cs.size, max fz.2 (cs.size + 1)))) r hb rfl rfl e1 ?_ ?_
    · rw [e3]
      have hj : L.j < w.heap.size := (Array.getElem?_eq_some_iff.1 hob).1
      obtain ⟨lo, hi⟩ := fz
      refine ⟨by simp [World.freeze], fun i hi => ?_, ?_, rfl, rfl, rfl⟩
      · simp only [World.freeze, if_neg (show ¬ (1 = 0) by decide), Array.getElem?_modify]
        rw [if_neg (fun h => hi h.symm)]
      · simp only [World.freeze, if_neg (show ¬ (1 = 0) by decide), Array.getElem?_modify, if_true, hob, Option.map_some]
    · refine ⟨cs, el, _, rfl, b2, b3, (fun h => by cases h), b5, fun _ => ⟨.inr ?_, (fun h => by cases h)⟩⟩
      have := (b6 rfl).1
      split
      · exact Nat.le_refl _
      · rename_i hne
        simp only [beq_iff_eq] at hne
        simp only
        omega
  refine NOk.of_run (w' := w.freeze { block := ad.block, off := cs.size } 1) (v := a.eval x) ?_ (hnext ι _ _ htr h1')
  simp only [execOp, ho, h1]
  simp [convert, run_underlying ht, run_underlying he8, markStringish, hsh]

/-! ### Maps -/

def KdD : Kd → TypeDesc → Bool
  | .b, .bool | .i, .int _ | .s, .string => true
  | _, _ => false

theorem bytes_same (a b : ByteArray) : (a == b) = (a.data.toList == b.data.toList) := by
  rw [Bool.eq_iff_iff, MapKept.bytes_beq, beq_iff_eq]
  constructor
  · rintro rfl
    rfl
  · intro h
    obtain ⟨x⟩ := a
    obtain ⟨y⟩ := b
    congr 1
    exact Array.toList_inj.1 h

theorem same_ok {kd : Kd} {d : TypeDesc} (h : KdD kd d = true) {ι : Inj} {k k' : AV} {v v' : Value} (hk : VR ι k v) (hk' : VR ι k' v') {r : Bool} (hr : aEqK kd k k' = some r) :
    Instr.sameNow d v v' = some r ∧ (r = true → Instr.sameBits 10000 v' v = true) := by
  unfold aEqK at hr
  split at hr
  · rename_i a b
    simp only [VR] at hk hk'
    subst hk hk'
    cases d <;> simp [KdD] at h
    obtain rfl := Option.some.inj hr
    refine ⟨rfl, fun e => ?_⟩
    simp only [beq_iff_eq] at e
    subst e
    simp [Instr.sameBits]
  · rename_i q a q' b
    split at hr
    case isFalse => cases hr
    rename_i e
    subst e
    simp only [VR] at hk hk'
    subst hk hk'
    cases d <;> simp [KdD] at h
    obtain rfl := Option.some.inj hr
    refine ⟨by simp [Instr.sameNow], fun e => ?_⟩
    simp only [beq_iff_eq] at e
    subst e
    simp [Instr.sameBits]
  · rename_i a b
    simp only [VR] at hk hk'
    obtain ⟨x, rfl, rfl⟩ := hk
    obtain ⟨y, rfl, rfl⟩ := hk'
    cases d <;> simp [KdD] at h
    obtain rfl := Option.some.inj hr
    refine ⟨by simp only [Instr.sameNow, bytes_same], fun e => ?_⟩
    simp only [Instr.sameBits, bytes_same]
    rw [beq_iff_eq] at e ⊢
    exact e.symm
  · cases hr

theorem find_ok {kd : Kd} {d : TypeDesc} (h : KdD kd d = true) {ι : Inj} {k : AV} {kv : Value} (hk : VR ι k kv) : ∀ {es : List (AV × AV)} {l : List MapEntry} {i : Nat} {r : Option (Nat × AV)}, ERL ι es l → aFind kd k es i = some r →
    (r = none ∧ Instr.findNow d kv l i = some none) ∨ ∃ n x xk e, r = some (i + n, x) ∧ es[n]? = some (xk, x) ∧ l[n]? = some e ∧ Instr.findNow d kv l i = some (some (i + n, e.val)) ∧ VR ι x e.val ∧ Instr.sameBits 10000 e.key kv = true
  | [], [], i, r, _, hr => by
    simp only [aFind, Option.some.injEq] at hr
    exact .inl ⟨hr.symm, rfl⟩
  | [], _ :: _, _, _, he, _ => by simp [ERL] at he
  | _ :: _, [], _, _, he, _ => by simp [ERL] at he
  | a :: es, e :: l, i, r, he, hr => by
    simp only [ERL] at he
    simp only [aFind] at hr
    split at hr
    · rename_i hs
      obtain ⟨s1, s2⟩ := same_ok h hk he.1 hs
      simp only [Option.some.injEq] at hr
      subst hr
      exact .inr ⟨0, a.2, a.1, e, rfl, rfl, rfl, by simp [Instr.findNow, s1], he.2.1, s2 rfl⟩
    · rename_i hs
      obtain ⟨s1, _⟩ := same_ok h hk he.1 hs
      rcases find_ok h hk he.2.2 hr with ⟨rfl, q⟩ | ⟨n, x, xk, e', rfl, q1, q2, q3, q4, q5⟩
      · exact .inl ⟨rfl, by simp [Instr.findNow, s1, q]⟩
      · exact .inr ⟨n + 1, x, xk, e', by rw [Nat.add_assoc, Nat.add_comm 1], by simpa using q1, by simpa using q2, by simp [Instr.findNow, s1, q3]; omega, q4, q5⟩
    · cases hr

theorem run_checkK {P : Program} {w : World} {kt : TypeId} {kd : Kd} {d : TypeDesc} {k : Value} (hd : P.underlying kt = some d) (h : KdD kd d = true) (e : Bool) (n : Nat) : (Instr.checkKey e (n + 1) kt k).run P w = .ok () w := by
  unfold Instr.checkKey
  simp only [Sem.run_bind, run_underlying hd, Result.andThen]
  cases d <;> simp_all [KdD]
  all_goals cases k <;> simp_all

theorem run_check10 {P : Program} {w : World} {kt : TypeId} {kd : Kd} {d : TypeDesc} {k : Value} {e : Bool} (hd : P.underlying kt = some d) (h : KdD kd d = true) : (Instr.checkKey e 10000 kt k).run P w = .ok () w := run_checkK hd h e 9999

theorem entries_ok {ι : Inj} {M : Heap} {w : World} (r : R ι M w) {x : AV} {v : Value} (hx : VR ι x v) {es : List (AV × AV)} (h : aEntries x M = some es) :
    (v = .map none ∧ es = []) ∨ ∃ b l es' clock, x = .map (some b) ∧ ι b = some l ∧ v = .map (some l.j) ∧ w.heap[l.j]? = some (.map es' clock) ∧ ERL ι es es'.toList ∧ M.get b = some (.map es) := by
  unfold aEntries at h
  split at h
  · simp only [VR] at hx
    simp only [Option.some.injEq] at h
    exact .inl ⟨hx, h.symm⟩
  · rename_i b
    split at h
    case h_2 => cases h
    rename_i es0 hb
    simp only [Option.some.injEq] at h
    subst h
    simp only [VR] at hx
    obtain ⟨l, hl, rfl⟩ := hx
    obtain ⟨l', ob, hl', hob, es', clock, rfl, he⟩ := r.blk b _ hb
    rw [hl] at hl'
    obtain rfl := Option.some.inj hl'
    exact .inr ⟨b, l, es', clock, rfl, hl, rfl, hob, he, hb⟩
  · cases h

theorem ERL.length {ι : Inj} : ∀ {es : List (AV × AV)} {l : List MapEntry}, ERL ι es l → es.length = l.length
  | [], [], _ => rfl
  | _ :: es, _ :: l, h => by
    simp only [ERL] at h
    simp [ERL.length h.2.2]
  | [], _ :: _, h => by simp [ERL] at h
  | _ :: _, [], h => by simp [ERL] at h

theorem LOk.mapLen {P : Program} {o : Oper} {t k el : TypeId} {x : Operand} {ax : AX} (ho : o.op = .call { callee := .builtin .len, args := #[x], argTypes := #[t] })
    (ht : P.underlying t = some (.map k el)) (hx : cX x = some ax) : LOk P o (.mapLen ax) := by
  intro ι M e a w v r he h
  have h1 := cX_VR hx he
  simp only [aL] at h
  obtain ⟨es, hes, rfl⟩ := Option.map_eq_some_iff.1 h
  rcases entries_ok r h1 hes with ⟨h2, rfl⟩ | ⟨b, l, es', clock, _, _, h2, h3, h4, _⟩
  · refine ⟨.int .i64 0, ?_, by simp [VR]⟩
    simp [execOp, ho, resolve, invoke, builtin, Builtin.len_, h2, run_underlying ht, goInt]
  · refine ⟨.int .i64 es.length, ?_, by simp [VR]⟩
    have := h4.length
    simp [execOp, ho, resolve, invoke, builtin, Builtin.len_, h2, run_underlying ht, goInt, MapKept.run_getObj_map h3, Result.andThen, this]

theorem run_zeroVal {P : Program} {t : TypeId} {i : TypeInfo} {z : Value} (hi : P.info? t = some i) (hz : i.zero = some z) (w : World) : (zeroValue t).run P w = .ok z w := by
  simp [zeroValue, typeInfo, hi, hz, Result.andThen]

theorem LOk.lookup {P : Program} {o : Oper} {t kt el : TypeId} {kd : Kd} {d : TypeDesc} {i : TypeInfo} {z : Value} {za : AV} {ok : Bool} {x y : Operand} {ax ay : AX} (ho : o.op = .lookup t x y ok)
    (ht : P.underlying t = some (.map kt el)) (hd : P.underlying kt = some d) (hk : KdD kd d = true) (hi : P.info? el = some i) (hz : i.zero = some z) (hza : ofVal z = some za) (hx : cX x = some ax) (hy : cX y = some ay) : LOk P o (.lookup kd ok za ax ay) := by
  intro ι M e a w v r he h
  have h1 := cX_VR hx he
  have h2 := cX_VR hy he
  have hzr := ofVal_VR hza ι
  simp only [aL, aLookup] at h
  obtain ⟨es, hes, h⟩ := Option.bind_eq_some_iff.1 h
  obtain ⟨f, hf, rfl⟩ := Option.map_eq_some_iff.1 h
  rcases entries_ok r h1 hes with ⟨e1, rfl⟩ | ⟨b, l, es', clock, _, _, e1, e3, e4, _⟩
  · simp only [aFind, Option.some.injEq] at hf
    subst hf
    have q : Instr.findNow d (a.eval y) [] 0 = some none := rfl
    cases ok
    · exact ⟨z, by simp [execOp, ho, e1, Instr.lookup, run_underlying ht, run_check10 hd hk, MapKept.run_findKey hd q, run_zeroVal hi hz, Result.andThen], hzr⟩
    · exact ⟨.tuple #[z, .bool false], by simp [execOp, ho, e1, Instr.lookup, run_underlying ht, run_check10 hd hk, MapKept.run_findKey hd q, run_zeroVal hi hz, Result.andThen], by simp only [if_true, VR]; exact ⟨_, rfl, by simp [VRL, VR, hzr]⟩⟩
  · rcases find_ok hk h2 e4 hf with ⟨rfl, q⟩ | ⟨n, x', xk, e', rfl, q1, q2, q3, q4, q5⟩
    · cases ok
      · exact ⟨z, by simp [execOp, ho, e1, Instr.lookup, run_underlying ht, MapKept.run_getObj_map e3, run_check10 hd hk, MapKept.run_findKey hd q, run_zeroVal hi hz, Result.andThen], hzr⟩
      · exact ⟨.tuple #[z, .bool false], by simp [execOp, ho, e1, Instr.lookup, run_underlying ht, MapKept.run_getObj_map e3, run_check10 hd hk, MapKept.run_findKey hd q, run_zeroVal hi hz, Result.andThen], by simp only [if_true, VR]; exact ⟨_, rfl, by simp [VRL, VR, hzr]⟩⟩
    · cases ok
      · exact ⟨e'.val, by simp [execOp, ho, e1, Instr.lookup, run_underlying ht, MapKept.run_getObj_map e3, run_check10 hd hk, MapKept.run_findKey hd q3, Result.andThen], q4⟩
      · exact ⟨.tuple #[e'.val, .bool true], by simp [execOp, ho, e1, Instr.lookup, run_underlying ht, MapKept.run_getObj_map e3, run_check10 hd hk, MapKept.run_findKey hd q3, Result.andThen], by simp only [if_true, VR]; exact ⟨_, rfl, by simp [VRL, VR, q4]⟩⟩

theorem erl_modify {ι : Inj} {k v : AV} (f : MapEntry → MapEntry) (hf : ∀ e, VR ι k (f e).key ∧ VR ι v (f e).val) : ∀ {es : List (AV × AV)} {l : List MapEntry} {n : Nat}, ERL ι es l → ERL ι (es.set n (k, v)) (l.modify n f)
  | [], [], n, _ => by simp [ERL]
  | a :: es, e :: l, 0, h => by
    simp only [ERL] at h
    simp only [List.set_cons_zero, List.modify_zero_cons, ERL]
    exact ⟨(hf e).1, (hf e).2, h.2.2⟩
  | a :: es, e :: l, n + 1, h => by
    simp only [ERL] at h
    simp only [List.set_cons_succ, List.modify_succ_cons, ERL]
    exact ⟨h.1, h.2.1, erl_modify f hf h.2.2⟩
  | [], _ :: _, _, h => by simp [ERL] at h
  | _ :: _, [], _, h => by simp [ERL] at h

theorem erl_push {ι : Inj} {k v : AV} {e : MapEntry} (hk : VR ι k e.key) (hv : VR ι v e.val) : ∀ {es : List (AV × AV)} {l : List MapEntry}, ERL ι es l → ERL ι (es ++ [(k, v)]) (l ++ [e])
  | [], [], _ => by simp [ERL, hk, hv]
  | a :: es, x :: l, h => by
    simp only [ERL] at h
    simp only [List.cons_append, ERL]
    exact ⟨h.1, h.2.1, erl_push hk hv h.2.2⟩
  | [], _ :: _, h => by simp [ERL] at h
  | _ :: _, [], h => by simp [ERL] at h

theorem erl_erase {ι : Inj} : ∀ {es : List (AV × AV)} {l : List MapEntry} {n : Nat}, ERL ι es l → ERL ι (es.eraseIdx n) (l.eraseIdx n)
  | [], [], n, _ => by simp [ERL]
  | a :: es, e :: l, 0, h => by
    simp only [ERL] at h
    simpa using h.2.2
  | a :: es, e :: l, n + 1, h => by
    simp only [ERL] at h
    simp only [List.eraseIdx_cons_succ, ERL]
    exact ⟨h.1, h.2.1, erl_erase h.2.2⟩
  | [], _ :: _, _, h => by simp [ERL] at h
  | _ :: _, [], _, h => by simp [ERL] at h

theorem set_turned {w : World} {j : Nat} {o ob : Obj} (h : w.heap[j]? = some o) : Turned w { w with heap := w.heap.setIfInBounds j ob } j ob :=
  ⟨by simp, (MapKept.heap_set h).2, (MapKept.heap_set h).1, rfl, rfl, rfl⟩

theorem NOk.mapUpdate {P : Program} {C : ACalls} {o : Oper} {t kt el : TypeId} {kd : Kd} {d : TypeDesc} {x y z : Operand} {ax ay az : AX} (ho : o.op = .mapUpdate t x y z ∨ o.op = .insert t x y z)
    (ht : P.underlying t = some (.map kt el)) (hd : P.underlying kt = some d) (hk : KdD kd d = true) (hx : cX x = some ax) (hy : cX y = some ay) (hz : cX z = some az) : NOk P C o (.mapUpdate kd ax ay az) := by
  intro ι M e a w v M' next Q r he h hnext
  have h1 := cX_VR hx he
  have h2 := cX_VR hy he
  have h3 := cX_VR hz he
  simp only [aN] at h
  unfold aMapUpdate at h
  split at h
  case h_2 => cases h
  rename_i b hb
  rw [hb] at h1
  split at h
  case h_2 => cases h
  rename_i es hes
  simp only [VR] at h1
  obtain ⟨l, hl, h1⟩ := h1
  obtain ⟨l', ob, hl', hob, es', clock, rfl, hE⟩ := r.blk b _ hes
  rw [hl] at hl'
  obtain rfl := Option.some.inj hl'
  split at h
  · cases h
  obtain ⟨f, hf, h⟩ := Option.bind_eq_some_iff.1 h
  have hop : execOp a.eval o = (do Instr.mapUpdate t (a.eval x) (a.eval y) (a.eval z); pure Next.skip) := by
    rcases ho with ho | ho <;> simp only [execOp, ho]
  rcases find_ok hk h2 hE hf with ⟨rfl, q⟩ | ⟨n, x', xk, e', rfl, q1, q2, q3, q4, q5⟩
  · simp only at h
    split at h
    case isFalse => cases h
    simp only [Option.some.injEq, Prod.mk.injEq] at h
    obtain ⟨rfl, rfl⟩ := h
    have hrun : (Instr.mapUpdate t (a.eval x) (a.eval y) (a.eval z)).run P w = .ok () { w with heap := w.heap.setIfInBounds l.j (.map (es'.push { key := a.eval y, val := a.eval z, born := clock }) (clock + 1)) } := by
      simp [h1, Instr.mapUpdate, run_underlying ht, MapKept.run_getObj_map hob, run_check10 hd hk, MapKept.run_findKey hd q, MapKept.run_setObj_map _ hob, Result.andThen]
    refine NOk.of_skip (w' := _) (by rw [hop]; simp [hrun, Result.andThen]; rfl) (hnext ι undef _ (Tr.update r hes rfl rfl hl (set_turned hob) ⟨_, _, rfl, ?_⟩) (VR.unit _))
    rw [Array.toList_push]
    exact erl_push h2 h3 hE
  · simp only [Nat.zero_add, Option.some.injEq, Prod.mk.injEq] at h
    obtain ⟨rfl, rfl⟩ := h
    rw [Nat.zero_add] at q3
    have q6 : es'[n]? = some e' := by rw [← Array.getElem?_toList]; exact q2
    have hrun : (Instr.mapUpdate t (a.eval x) (a.eval y) (a.eval z)).run P w = .ok () { w with heap := w.heap.setIfInBounds l.j (.map (es'.modify n fun e => { e with key := a.eval y, val := a.eval z }) clock) } := by
      simp [h1, Instr.mapUpdate, run_underlying ht, MapKept.run_getObj_map hob, run_check10 hd hk, MapKept.run_findKey hd q3, q6, Instr.keyThatStays, q5, MapKept.run_setObj_map _ hob, Result.andThen]
    refine NOk.of_skip (w' := _) (by rw [hop]; simp [hrun, Result.andThen]; rfl) (hnext ι undef _ (Tr.update r hes rfl rfl hl (set_turned hob) ⟨_, _, rfl, ?_⟩) (VR.unit _))
    rw [Array.toList_modify]
    exact erl_modify _ (fun _ => ⟨h2, h3⟩) hE

theorem NOk.mapDelete {P : Program} {C : ACalls} {o : Oper} {t u kt el : TypeId} {kd : Kd} {d : TypeDesc} {x y : Operand} {ax ay : AX} (ho : o.op = .call { callee := .builtin .delete, args := #[x, y], argTypes := #[t, u] })
    (ht : P.underlying t = some (.map kt el)) (hd : P.underlying kt = some d) (hk : KdD kd d = true) (hx : cX x = some ax) (hy : cX y = some ay) : NOk P C o (.mapDelete kd ax ay) := by
  intro ι M e a w v M' next Q r he h hnext
  have h1 := cX_VR hx he
  have h2 := cX_VR hy he
  simp only [aN] at h
  unfold aMapDelete at h
  split at h
  case h_2 => cases h
  rename_i b hb
  rw [hb] at h1
  split at h
  case h_2 => cases h
  rename_i es hes
  simp only [VR] at h1
  obtain ⟨l, hl, h1⟩ := h1
  obtain ⟨l', ob, hl', hob, es', clock, rfl, hE⟩ := r.blk b _ hes
  rw [hl] at hl'
  obtain rfl := Option.some.inj hl'
  obtain ⟨f, hf, h⟩ := Option.bind_eq_some_iff.1 h
  have hu : VR ι (.tuple []) (.tuple #[]) := by simp only [VR]; exact ⟨_, rfl, by simp [VRL]⟩
  rcases find_ok hk h2 hE hf with ⟨rfl, q⟩ | ⟨n, x', xk, e', rfl, q1, q2, q3, q4, q5⟩
  · simp only [Option.some.injEq, Prod.mk.injEq] at h
    obtain ⟨rfl, rfl⟩ := h
    have hM : M.put b (some (.map es)) = M := by
      cases M with
      | mk g nx =>
        simp only [Heap.put, Heap.mk.injEq, and_true]
        funext i
        split
        · rename_i e
          rw [e]
          exact hes.symm
        · rfl
    have htr := Tr.update (x' := .map es) (ob := .map es' clock) (w' := { w with heap := w.heap.setIfInBounds l.j (.map es' clock) }) r hes rfl rfl hl (set_turned hob) ⟨_, _, rfl, hE⟩
    rw [hM] at htr
    refine NOk.of_run (v := .tuple #[]) ?_ (hnext ι _ _ htr hu)
    simp [execOp, ho, resolve, invoke, builtin, Builtin.delete_, h1, run_underlying ht, MapKept.run_getObj_map hob, run_check10 hd hk, MapKept.run_findKey hd q, MapKept.run_setObj_map _ hob, Result.andThen]
  · simp only [Nat.zero_add, Option.some.injEq, Prod.mk.injEq] at h
    obtain ⟨rfl, rfl⟩ := h
    rw [Nat.zero_add] at q3
    refine NOk.of_run (v := .tuple #[]) (w' := { w with heap := w.heap.setIfInBounds l.j (.map (es'.eraseIdxIfInBounds n) clock) }) ?_ (hnext ι _ _ (Tr.update r hes rfl rfl hl (set_turned hob) ⟨_, _, rfl, ?_⟩) hu)
    · simp [execOp, ho, resolve, invoke, builtin, Builtin.delete_, h1, run_underlying ht, MapKept.run_getObj_map hob, run_check10 hd hk, MapKept.run_findKey hd q3, MapKept.run_setObj_map _ hob, Result.andThen]
    · have hn : n < es'.size := by
        have := (List.getElem?_eq_some_iff.1 q2).1
        simpa using this
      unfold Array.eraseIdxIfInBounds
      rw [dif_pos hn, Array.toList_eraseIdx]
      exact erl_erase hE

end Go.Proofs.Ytlcjmchhnbdepaa
end

section
/- The abstract machine, ninth part: operations, read off the program. -/
set_option linter.unusedVariables false
set_option linter.unusedSimpArgs false
namespace Go.Proofs.Ytlcjmchhnbdepaa

def OpOk (P : Program) (C : ACalls) (o : Oper) : AOp → Prop
  | .p p => POk P o p
  | .l l => LOk P o l
  | .k k => KOk P o k
  | .n n => NOk P C o n

def cEq (P : Program) (neg : Bool) (t : TypeId) (ax ay : AX) : Option POp :=
  match P.underlying t with
  | some .bool => some (.eqB neg ax ay)
  | some (.struct _) => match flatOf P 20 t with
    | some ks => if P.eqGuardType P.depth t = false then some (.eqS neg ks ax ay) else none
    | none => none
  | some (.pointer el) => match szOf P el with
    | some (_ + 1) => some (.eqP neg ax ay)
    | _ => none
  | some (.slice _) => some (.eqN neg ax ay)
  | _ => none

theorem cEq_ok {P : Program} {C : ACalls} {o : Oper} {neg : Bool} {t u : TypeId} {x y : Operand} {ax ay : AX} (ho : o.op = .binOp (if neg then .neq else .eql) t x y u) (hx : cX x = some ax) (hy : cX y = some ay) {p : POp} (h : cEq P neg t ax ay = some p) : POk P o p := by
  unfold cEq at h
  split at h
  · rename_i hu
    obtain rfl := Option.some.inj h
    exact POk.eqB ho hu hx hy
  · rename_i fs hu
    split at h
    case h_2 => cases h
    rename_i ks hk
    split at h
    case isFalse => cases h
    rename_i hg
    obtain rfl := Option.some.inj h
    exact POk.eqS ho hu hk hg hx hy
  · rename_i el hu
    split at h
    case h_2 => cases h
    rename_i n hn
    obtain rfl := Option.some.inj h
    exact POk.eqP ho hu hn hx hy
  · rename_i el hu
    obtain rfl := Option.some.inj h
    exact POk.eqN ho hu hx hy
  · cases h

def cBin (P : Program) (op : BinOp) (t : TypeId) (ax ay : AX) : Option POp :=
  match P.underlying t with
  | some (.int _) | some .string => some (.bin op ax ay)
  | _ => match op with
    | .eql => cEq P false t ax ay
    | .neq => cEq P true t ax ay
    | _ => none

theorem cBin_ok {P : Program} {C : ACalls} {o : Oper} {op : BinOp} {t u : TypeId} {x y : Operand} {ax ay : AX} (ho : o.op = .binOp op t x y u) (hx : cX x = some ax) (hy : cX y = some ay) {p : POp} (h : cBin P op t ax ay = some p) : POk P o p := by
  unfold cBin at h
  split at h
  · obtain rfl := Option.some.inj h
    exact POk.bin ho hx hy
  · obtain rfl := Option.some.inj h
    exact POk.bin ho hx hy
  · split at h
    · exact cEq_ok (C := C) (neg := false) (by simpa using ho) hx hy h
    · exact cEq_ok (C := C) (neg := true) (by simpa using ho) hx hy h
    · cases h

def cConv (P : Program) (s d : TypeId) (ax : AX) : Option AOp :=
  match P.underlying s, P.underlying d with
  | some .string, some .string => some (.p (.cvStr ax))
  | some .string, some (.slice el) => match P.underlying el with
    | some (.int .u8) => some (.k (.strBytes ax))
    | _ => none
  | some (.slice el), some .string => match P.underlying el with
    | some (.int .u8) => some (.l (.bytesStr ax))
    | _ => none
  | some (.int _), some (.int k) => some (.p (.cvInt k ax))
  | some (.slice el), some (.slice _) => if s = d then match P.underlying el with
      | some (.int .u8) => some (.n (.cvBytes ax))
      | _ => none
    else none
  | _, _ => none

theorem cConv_ok {P : Program} {C : ACalls} {o : Oper} {s d : TypeId} {x : Operand} {ax : AX} (ho : o.op = .convert s d x) (hx : cX x = some ax) {a : AOp} (h : cConv P s d ax = some a) : OpOk P C o a := by
  unfold cConv at h
  split at h
  · rename_i h1 h2
    obtain rfl := Option.some.inj h
    exact POk.cvStr ho h1 h2 hx
  · rename_i el h1 h2
    split at h
    case h_2 => cases h
    rename_i h3
    obtain rfl := Option.some.inj h
    exact KOk.strBytes ho h1 h2 h3 hx
  · rename_i el h1 h2
    split at h
    case h_2 => cases h
    rename_i h3
    obtain rfl := Option.some.inj h
    exact LOk.bytesStr ho h1 h3 h2 hx
  · rename_i k' k h1 h2
    obtain rfl := Option.some.inj h
    exact POk.cvInt ho (by rw [h1]; rfl) h2 hx
  · rename_i el el' h1 h2
    split at h
    case isFalse => cases h
    rename_i hsd
    subst hsd
    split at h
    case h_2 => cases h
    rename_i h3
    obtain rfl := Option.some.inj h
    exact NOk.cvBytes ho h1 h3 hx
  · cases h

def cSlice (P : Program) (t : TypeId) (ax : AX) (lo hi mx : Option AX) : Option POp :=
  match P.underlying t with
  | some .string => match mx with
    | none => some (.sliceStr ax lo hi)
    | some _ => none
  | some (.slice el) => match szOf P el with
    | some n => some (.slice n ax lo hi mx)
    | none => none
  | _ => none

def cAddr (P : Program) (t : TypeId) (ax ai : AX) : Option POp :=
  match P.underlying t with
  | some (.array m el) => match szOf P el with
    | some n => some (.idxArr m n ax ai)
    | none => none
  | some (.slice el) => match szOf P el with
    | some n => some (.idxSlice n ax ai)
    | none => none
  | _ => none

def cIndex (P : Program) (t : TypeId) (ax ai : AX) : Option POp :=
  match P.underlying t with
  | some .string => some (.indexStr ax ai)
  | some (.array m el) => match aggOf P el, szOf P el with
    | some g, some n => some (.index g m n ax ai)
    | _, _ => none
  | _ => none

def cField (P : Program) (t : TypeId) (f : Nat) (addr : Bool) (ax : AX) : Option POp :=
  match P.underlying t with
  | some (.struct fs) => match fs[f]? with
    | some fd => match addr, aggOf P fd.type, szOf P fd.type with
      | true, _, some (_ + 1) => some (.fieldAddr fd.offset ax)
      | false, some g, some n => some (.field g fd.offset n ax)
      | _, _, _ => none
    | none => none
  | _ => none

def cBuildSlice (P : Program) (t : TypeId) (len : Nat) (parts : List (Nat × Operand)) : Option KOp :=
  match P.underlying t with
  | some (.slice el) => match szOf P el, zeroOf P el with
    | some (n + 1), some zero => match cParts (fun i => some (i * (n + 1), n + 1)) parts with
      | some al =>
        let bl := al.zip parts |>.map fun p => (p.2.1, p.1.2.2)
        if len * (n + 1) ≤ 16777216 ∧ zero.length = n + 1 then some (.buildSlice (n + 1) len zero bl) else none
      | none => none
    | _, _ => none
  | _ => none

theorem cBuildSlice_ok {P : Program} {o : Oper} {t : TypeId} {len : Nat} {parts : Array (Nat × Operand)} (ho : o.op = .buildSlice t len parts) {k : KOp} (h : cBuildSlice P t len parts.toList = some k) : KOk P o k := by
  unfold cBuildSlice at h
  split at h
  case h_2 => cases h
  rename_i el hu
  split at h
  case h_2 => cases h
  rename_i n zero hn hz
  split at h
  case h_2 => cases h
  rename_i al hal
  simp only at h
  split at h
  case isFalse => cases h
  rename_i hc
  obtain rfl := Option.some.inj h
  refine KOk.buildSlice ho hu hn (by omega) hc.1 hz hc.2 ?_
  rw [hal]
  congr 1
  clear hz hc h ho
  generalize parts.toList = l at hal
  induction l generalizing al with
  | nil =>
    simp only [cParts, Option.some.injEq] at hal
    subst hal
    rfl
  | cons q l ih =>
    obtain ⟨i, x⟩ := q
    simp only [cParts] at hal
    split at hal
    case h_2 => cases hal
    rename_i p ax al' h1 h2 h3
    obtain rfl := Option.some.inj hal
    obtain rfl := Option.some.inj h1
    simp only [List.zip_cons_cons, List.map_cons]
    rw [← ih _ h3]

def cAppend (P : Program) (t u : TypeId) (ax ay : AX) : Option NOp :=
  match P.underlying t with
  | some (.slice el) => match P.info? el, zeroOf P el with
    | some i, some zero => if 0 < i.size ∧ zero.length = i.size then
        match P.underlying u with
        | some .string | some (.slice _) => some (.append i.size i.bytes ax ay)
        | some (.int _) => some (.appendZ i.size i.bytes zero ax ay)
        | _ => none
      else none
    | _, _ => none
  | _ => none

def cLen (P : Program) (t : TypeId) (ax : AX) : Option POp :=
  match P.underlying t with
  | some .string => some (.len true ax)
  | some (.slice _) => some (.len false ax)
  | some (.array n _) => some (.move (.c (.int .i64 n)))
  | _ => none

def kdOf : TypeDesc → Option Kd
  | .bool => some .b
  | .int _ => some .i
  | .string => some .s
  | _ => none
theorem kdOf_ok {d : TypeDesc} {kd : Kd} (h : kdOf d = some kd) : KdD kd d = true := by
  unfold kdOf at h
  split at h <;> first | (obtain rfl := Option.some.inj h; rfl) | cases h

def cMap (P : Program) (t : TypeId) : Option (Kd × TypeId) :=
  match P.underlying t with
  | some (.map kt el) => match P.underlying kt with
    | some d => (kdOf d).map fun k => (k, el)
    | none => none
  | _ => none
theorem cMap_ok {P : Program} {t : TypeId} {p : Kd × TypeId} (h : cMap P t = some p) : ∃ kt d, P.underlying t = some (.map kt p.2) ∧ P.underlying kt = some d ∧ KdD p.1 d = true := by
  unfold cMap at h
  split at h
  case h_2 => cases h
  rename_i kt el hu
  split at h
  case h_2 => cases h
  rename_i d hd
  obtain ⟨k, hk, rfl⟩ := Option.map_eq_some_iff.1 h
  exact ⟨kt, d, hu, hd, kdOf_ok hk⟩
def cZero (P : Program) (t : TypeId) : Option AV := match P.info? t with
  | some i => match i.zero with
    | some z => ofVal z
    | none => none
  | none => none
theorem cZero_ok {P : Program} {t : TypeId} {a : AV} (h : cZero P t = some a) : ∃ i z, P.info? t = some i ∧ i.zero = some z ∧ ofVal z = some a := by
  unfold cZero at h
  split at h
  case h_2 => cases h
  rename_i i hi
  split at h
  case h_2 => cases h
  rename_i z hz
  exact ⟨i, z, hi, hz, h⟩

def cCall (P : Program) (c : Call) : Option AOp :=
  match c with
  | ⟨.value f, args, _⟩ => match cX f, cXs args.toList with
    | some af, some al => some (.n (.call af al))
    | _, _ => none
  | ⟨.builtin .len, ⟨[x]⟩, ⟨[t]⟩⟩ => (cX x).bind fun ax => match cMap P t with
    | some _ => some (.l (.mapLen ax))
    | none => (cLen P t ax).map .p
  | ⟨.builtin .delete, ⟨[x, y]⟩, ⟨[t, _]⟩⟩ => match cX x, cX y, cMap P t with
    | some ax, some ay, some p => some (.n (.mapDelete p.1 ax ay))
    | _, _, _ => none
  | ⟨.builtin .cap, ⟨[x]⟩, ⟨[t]⟩⟩ => match P.underlying t with
    | some (.slice _) => (cX x).map fun ax => .p (.cap ax)
    | _ => none
  | ⟨.builtin .append, ⟨[x, y]⟩, ⟨[t, u]⟩⟩ => match cX x, cX y with
    | some ax, some ay => (cAppend P t u ax ay).map .n
    | _, _ => none
  | ⟨.builtin .copy, ⟨[x, y]⟩, ⟨[t, u]⟩⟩ => match cX x, cX y, P.underlying t with
    | some ax, some ay, some (.slice el) => (szOf P el).map fun n => .n (.copy n ax ay)
    | _, _, _ => none
  | ⟨.builtin .clear, ⟨[x]⟩, ⟨[t]⟩⟩ => match cX x, P.underlying t with
    | some ax, some (.slice el) => match szOf P el, zeroOf P el with
      | some n, some zero => if zero.length = n then some (.n (.clear n zero ax)) else none
      | _, _ => none
    | _, _ => none
  | ⟨.builtin .max, args, _⟩ => (cXs args.toList).map fun al => .p (.minmax true al)
  | ⟨.builtin .min, args, _⟩ => (cXs args.toList).map fun al => .p (.minmax false al)
  | _ => none

theorem cCall_ok {P : Program} {C : ACalls} (hC : CallsOk P C) {o : Oper} {c : Call} (ho : o.op = .call c) {a : AOp} (h : cCall P c = some a) : OpOk P C o a := by
  unfold cCall at h
  split at h
  · rename_i f args ts
    split at h
    case h_2 => cases h
    rename_i af al h1 h2
    obtain rfl := Option.some.inj h
    exact NOk.call hC ho h1 h2
  · rename_i x t
    obtain ⟨ax, hx, h⟩ := Option.bind_eq_some_iff.1 h
    split at h
    · rename_i q hq
      obtain ⟨kt, d, hu, _, _⟩ := cMap_ok hq
      obtain rfl := Option.some.inj h
      exact LOk.mapLen ho hu hx
    obtain ⟨p, hp, rfl⟩ := Option.map_eq_some_iff.1 h
    unfold cLen at hp
    split at hp
    · rename_i hu
      obtain rfl := Option.some.inj hp
      exact POk.lenStr ho hu hx
    · rename_i hu
      obtain rfl := Option.some.inj hp
      exact POk.lenSlice ho hu hx
    · rename_i hu
      obtain rfl := Option.some.inj hp
      exact POk.lenArr ho hu
    · cases hp
  · rename_i x y t u
    split at h
    case h_2 => cases h
    rename_i ax ay p hx hy hp
    obtain rfl := Option.some.inj h
    obtain ⟨kt, d, hu, hd, hk⟩ := cMap_ok hp
    exact NOk.mapDelete ho hu hd hk hx hy
  · rename_i x t
    split at h
    case h_2 => cases h
    rename_i hu
    obtain ⟨ax, hx, rfl⟩ := Option.map_eq_some_iff.1 h
    exact POk.cap ho hu hx
  · rename_i x y t u
    split at h
    case h_2 => cases h
    rename_i ax ay hx hy
    obtain ⟨n, hn, rfl⟩ := Option.map_eq_some_iff.1 h
    unfold cAppend at hn
    split at hn
    case h_2 => cases hn
    rename_i el hu
    split at hn
    case h_2 => cases hn
    rename_i i zero hi hz
    split at hn
    case isFalse => cases hn
    rename_i hc
    split at hn
    · rename_i hv
      obtain rfl := Option.some.inj hn
      exact NOk.append ho hu (.inl hv) hi hc.1 hz hc.2 hx hy
    · rename_i e' hv
      obtain rfl := Option.some.inj hn
      exact NOk.append ho hu (.inr ⟨_, hv⟩) hi hc.1 hz hc.2 hx hy
    · rename_i k hv
      obtain rfl := Option.some.inj hn
      exact NOk.appendZ ho hu ⟨_, hv⟩ hi hc.1 hz hc.2 hx hy
    · cases hn
  · rename_i x y t u
    split at h
    case h_2 => cases h
    rename_i ax ay el hx hy hu
    obtain ⟨n, hn, rfl⟩ := Option.map_eq_some_iff.1 h
    exact NOk.copy ho hu hn hx hy
  · rename_i x t
    split at h
    case h_2 => cases h
    rename_i ax el hx hu
    split at h
    case h_2 => cases h
    rename_i n zero hn hz
    split at h
    case isFalse => cases h
    rename_i hc
    obtain rfl := Option.some.inj h
    exact NOk.clear ho hu hn hz hc hx
  · rename_i args ts
    obtain ⟨al, hal, rfl⟩ := Option.map_eq_some_iff.1 h
    exact POk.minmax (isMax := true) (by simpa using ho) hal
  · rename_i args ts
    obtain ⟨al, hal, rfl⟩ := Option.map_eq_some_iff.1 h
    exact POk.minmax (isMax := false) (by simpa using ho) hal
  · cases h

theorem cXo_none {m : Option Operand} (h : cXo m = some none) : m = none := by
  cases m with
  | none => rfl
  | some m =>
    simp only [cXo] at h
    obtain ⟨_, _, h5⟩ := Option.map_eq_some_iff.1 h
    cases h5

def cOp? (P : Program) (op : Op) : Option AOp :=
  match op with
  | .move x | .assign x => (cX x).map fun x => .p (.move x)
  | .pick c a b => match cX c, cX a, cX b with
    | some c, some a, some b => some (.p (.pick c a b))
    | _, _, _ => none
  | .alloc t => (zeroOf P t).map fun z => .k (.alloc z)
  | .box _ x => (cX x).map fun x => .k (.box x)
  | .build t parts => if buildable P t then (match zeroOf P t, cParts (placeOf P t) parts.toList with
    | some z, some al => some (.p (.build z al))
    | _, _ => none) else none
  | .buildSlice t len parts => (cBuildSlice P t len parts.toList).map .k
  | .load t x => match aggOf P t, szOf P t, cX x with
    | some g, some n, some x => some (.l (.load g n x))
    | _, _, _ => none
  | .store t x y => match szOf P t, cX x, cX y with
    | some n, some x, some y => some (.n (.store n x y))
    | _, _, _ => none
  | .nilCheck x => (cX x).map fun x => .p (.nilCheck x)
  | .binOp op t x y _ => match cX x, cX y with
    | some x, some y => (cBin P op t x y).map .p
    | _, _ => none
  | .unOp op _ x => (cX x).map fun x => .p (.un op x)
  | .convert s d x => (cX x).bind fun x => cConv P s d x
  | .makeFunc (.func f) ⟨[]⟩ caps => (cXs caps.toList).map fun l => .p (.mkFunc f l)
  | .makeMap _ none => some (.k .makeMap)
  | .lookup t x y ok => match cMap P t, cX x, cX y with
    | some p, some x, some y => (cZero P p.2).map fun z => .l (.lookup p.1 ok z x y)
    | _, _, _ => none
  | .mapUpdate t x y z | .insert t x y z => match cMap P t, cX x, cX y, cX z with
    | some p, some x, some y, some z => some (.n (.mapUpdate p.1 x y z))
    | _, _, _, _ => none
  | .makeSlice t l c => match P.underlying t with
    | some (.slice el) => match P.info? el, zeroOf P el, cX l, cX c with
      | some i, some z, some l, some c => if 0 < i.size ∧ z.length = i.size then some (.k (.makeSlice i.size i.bytes z l c)) else none
      | _, _, _, _ => none
    | _ => none
  | .slice t x lo hi mx => match cX x, cXo lo, cXo hi, cXo mx with
    | some x, some lo, some hi, some mx => (cSlice P t x lo hi mx).map .p
    | _, _, _, _ => none
  | .fieldAddr t x f => (cX x).bind fun x => (cField P t f true x).map .p
  | .field t x f => (cX x).bind fun x => (cField P t f false x).map .p
  | .indexAddr t x i => match cX x, cX i with
    | some x, some i => (cAddr P t x i).map .p
    | _, _ => none
  | .index t x i => match cX x, cX i with
    | some x, some i => (cIndex P t x i).map .p
    | _, _ => none
  | .extract x i => (cX x).map fun x => .p (.extract x i)
  | .call c => cCall P c
  | _ => none

theorem cOp?_ok {P : Program} {C : ACalls} (hC : CallsOk P C) {o : Oper} {a : AOp} (h : cOp? P o.op = some a) : OpOk P C o a := by
  generalize ho : o.op = op at h
  unfold cOp? at h
  split at h
  · obtain ⟨x, hx, rfl⟩ := Option.map_eq_some_iff.1 h
    exact POk.move (.inl ho) hx
  · obtain ⟨x, hx, rfl⟩ := Option.map_eq_some_iff.1 h
    exact POk.move (.inr ho) hx
  · split at h
    case h_2 => cases h
    rename_i h1 h2 h3
    obtain rfl := Option.some.inj h
    exact POk.pick ho h1 h2 h3
  · obtain ⟨x, hx, rfl⟩ := Option.map_eq_some_iff.1 h
    exact KOk.alloc ho hx
  · obtain ⟨x, hx, rfl⟩ := Option.map_eq_some_iff.1 h
    exact KOk.box ho hx
  · split at h
    case isFalse => cases h
    rename_i hb
    split at h
    case h_2 => cases h
    rename_i h1 h2
    obtain rfl := Option.some.inj h
    exact POk.build ho hb h1 h2
  · obtain ⟨x, hx, rfl⟩ := Option.map_eq_some_iff.1 h
    exact cBuildSlice_ok ho hx
  · split at h
    case h_2 => cases h
    rename_i h1 h2 h3
    obtain rfl := Option.some.inj h
    exact LOk.load ho h1 h2 h3
  · split at h
    case h_2 => cases h
    rename_i h1 h2 h3
    obtain rfl := Option.some.inj h
    exact NOk.store ho h1 h2 h3
  · obtain ⟨x, hx, rfl⟩ := Option.map_eq_some_iff.1 h
    exact POk.nilCheck ho hx
  · split at h
    case h_2 => cases h
    rename_i h1 h2
    obtain ⟨p, hp, rfl⟩ := Option.map_eq_some_iff.1 h
    exact cBin_ok (C := C) ho h1 h2 hp
  · obtain ⟨x, hx, rfl⟩ := Option.map_eq_some_iff.1 h
    exact POk.un ho hx
  · obtain ⟨x, hx, h⟩ := Option.bind_eq_some_iff.1 h
    exact cConv_ok ho hx h
  · obtain ⟨x, hx, rfl⟩ := Option.map_eq_some_iff.1 h
    exact POk.mkFunc ho hx
  · obtain rfl := Option.some.inj h
    exact KOk.makeMap ho
  · split at h
    case h_2 => cases h
    rename_i p ax ay hp hx hy
    obtain ⟨z, hz, rfl⟩ := Option.map_eq_some_iff.1 h
    obtain ⟨kt, d, hu, hd, hk⟩ := cMap_ok hp
    obtain ⟨i, zv, hi, hz1, hz2⟩ := cZero_ok hz
    exact LOk.lookup ho hu hd hk hi hz1 hz2 hx hy
  · split at h
    case h_2 => cases h
    rename_i p ax ay az hp hx hy hz
    obtain rfl := Option.some.inj h
    obtain ⟨kt, d, hu, hd, hk⟩ := cMap_ok hp
    exact NOk.mapUpdate (.inl ho) hu hd hk hx hy hz
  · split at h
    case h_2 => cases h
    rename_i p ax ay az hp hx hy hz
    obtain rfl := Option.some.inj h
    obtain ⟨kt, d, hu, hd, hk⟩ := cMap_ok hp
    exact NOk.mapUpdate (.inr ho) hu hd hk hx hy hz
  · split at h
    case h_2 => cases h
    rename_i hu
    split at h
    case h_2 => cases h
    rename_i h1 h2 h3 h4
    split at h
    case isFalse => cases h
    rename_i hc
    obtain rfl := Option.some.inj h
    exact KOk.makeSlice ho hu h1 hc.1 h2 hc.2 h3 h4
  · split at h
    case h_2 => cases h
    rename_i h1 h2 h3 h4
    obtain ⟨p, hp, rfl⟩ := Option.map_eq_some_iff.1 h
    unfold cSlice at hp
    split at hp
    · rename_i hu
      split at hp
      · obtain rfl := Option.some.inj hp
        obtain rfl := cXo_none h4
        exact POk.sliceStr ho hu h1 h2 h3
      · cases hp
    · rename_i hu
      split at hp
      case h_2 => cases hp
      rename_i hn
      obtain rfl := Option.some.inj hp
      exact POk.slice ho hu hn h1 h2 h3 h4
    · cases hp
  · obtain ⟨x, hx, h⟩ := Option.bind_eq_some_iff.1 h
    obtain ⟨p, hp, rfl⟩ := Option.map_eq_some_iff.1 h
    unfold cField at hp
    split at hp
    case h_2 => cases hp
    rename_i hu
    split at hp
    case h_2 => cases hp
    rename_i fd hf
    split at hp
    · rename_i hn
      obtain rfl := Option.some.inj hp
      exact POk.fieldAddr ho hu hf hn hx
    · contradiction
    · cases hp
  · obtain ⟨x, hx, h⟩ := Option.bind_eq_some_iff.1 h
    obtain ⟨p, hp, rfl⟩ := Option.map_eq_some_iff.1 h
    unfold cField at hp
    split at hp
    case h_2 => cases hp
    rename_i hu
    split at hp
    case h_2 => cases hp
    rename_i fd hf
    split at hp
    · contradiction
    · rename_i hg hn
      obtain rfl := Option.some.inj hp
      exact POk.field ho hu hf hg hn hx
    · cases hp
  · split at h
    case h_2 => cases h
    rename_i h1 h2
    obtain ⟨p, hp, rfl⟩ := Option.map_eq_some_iff.1 h
    unfold cAddr at hp
    split at hp
    · rename_i hu
      split at hp
      case h_2 => cases hp
      rename_i hn
      obtain rfl := Option.some.inj hp
      exact POk.idxArr ho hu hn h1 h2
    · rename_i hu
      split at hp
      case h_2 => cases hp
      rename_i hn
      obtain rfl := Option.some.inj hp
      exact POk.idxSlice ho hu hn h1 h2
    · cases hp
  · split at h
    case h_2 => cases h
    rename_i h1 h2
    obtain ⟨p, hp, rfl⟩ := Option.map_eq_some_iff.1 h
    unfold cIndex at hp
    split at hp
    · rename_i hu
      obtain rfl := Option.some.inj hp
      exact POk.indexStr ho hu h1 h2
    · rename_i hu
      split at hp
      case h_2 => cases hp
      rename_i hg hn
      obtain rfl := Option.some.inj hp
      exact POk.index ho hu hg hn h1 h2
    · cases hp
  · obtain ⟨x, hx, rfl⟩ := Option.map_eq_some_iff.1 h
    exact POk.extract ho hx
  · exact cCall_ok hC ho h
  · cases h

def cOp (P : Program) (op : Op) : AOp := (cOp? P op).getD (.n .fail)

theorem cOp_ok {P : Program} {C : ACalls} (hC : CallsOk P C) (o : Oper) : OpOk P C o (cOp P o.op) := by
  unfold cOp
  cases h : cOp? P o.op with
  | none => exact NOk.fail
  | some a => exact cOp?_ok hC h

end Go.Proofs.Ytlcjmchhnbdepaa
end

section
/- The abstract machine, tenth part: regions whose order is drawn: every order comes to the same. -/
set_option linter.unusedVariables false
set_option linter.unusedSimpArgs false
namespace Go.Proofs.Ytlcjmchhnbdepaa

/-! ### What an operation reads of the temporaries -/

def AX.rd : AX → List Nat
  | .t n => [n]
  | .c _ => []

def AX.rds (l : List AX) : List Nat := l.flatMap AX.rd
def rdO (x : Option AX) : List Nat := x.elim [] AX.rd

def POp.rd : POp → List Nat
  | .move x | .nilCheck x | .un _ x | .cvInt _ x | .cvStr x | .fieldAddr _ x | .field _ _ _ x | .extract x _ | .len _ x | .cap x => x.rd
  | .pick c a b => c.rd ++ a.rd ++ b.rd
  | .build _ ps => ps.flatMap fun p => p.2.2.rd
  | .bin _ x y | .eqB _ x y | .eqS _ _ x y | .eqP _ x y | .eqN _ x y | .idxArr _ _ x y | .idxSlice _ x y | .index _ _ _ x y | .indexStr x y => x.rd ++ y.rd
  | .mkFunc _ l | .minmax _ l => AX.rds l
  | .sliceStr x lo hi => x.rd ++ rdO lo ++ rdO hi
  | .slice _ x lo hi mx => x.rd ++ rdO lo ++ rdO hi ++ rdO mx

def LOp.rd : LOp → List Nat
  | .load _ _ x | .bytesStr x | .mapLen x => x.rd
  | .lookup _ _ _ x k => x.rd ++ k.rd

def KOp.rd : KOp → List Nat
  | .alloc _ | .makeMap => []
  | .box x | .strBytes x => x.rd
  | .buildSlice _ _ _ ps => ps.flatMap fun p => p.2.rd
  | .makeSlice _ _ _ l c => l.rd ++ c.rd

def NOp.rd : NOp → List Nat
  | .store _ a v => a.rd ++ v.rd
  | .call f l => f.rd ++ AX.rds l
  | .append _ _ s x => s.rd ++ x.rd
  | .appendZ _ _ _ s x => s.rd ++ x.rd
  | .copy _ s x => s.rd ++ x.rd
  | .clear _ _ x => x.rd
  | .mapUpdate _ m k v => m.rd ++ k.rd ++ v.rd
  | .mapDelete _ m k => m.rd ++ k.rd
  | .cvBytes x => x.rd
  | .fail => []

def AOp.rd : AOp → List Nat
  | .p o => o.rd
  | .l o => o.rd
  | .k o => o.rd
  | .n o => o.rd

def AOper.rd (o : AOper) : List Nat := (match o.guard with | some (t, _) => [t] | none => []) ++ o.op.rd

def Agree (l : List Nat) (e e' : Env) : Prop := ∀ t, t ∈ l → e.getD t .undef = e'.getD t .undef

theorem AX.ev_agree {x : AX} {e e' : Env} {l : List Nat} (h : Agree l e e') (hx : ∀ t, t ∈ x.rd → t ∈ l) : x.ev e = x.ev e' := by
  cases x with
  | t n => exact h n (hx n (by simp [AX.rd]))
  | c v => rfl

theorem AX.map_agree {l : List AX} {e e' : Env} {r : List Nat} (h : Agree r e e') (hx : ∀ t, t ∈ AX.rds l → t ∈ r) : l.map (AX.ev e) = l.map (AX.ev e') := by
  refine List.map_congr_left fun x hm => AX.ev_agree h fun t ht => hx t ?_
  simp only [AX.rds, List.mem_flatMap]
  exact ⟨x, hm, ht⟩

theorem aBoundO_agree {x : Option AX} {e e' : Env} {r : List Nat} (h : Agree r e e') (hx : ∀ t, t ∈ rdO x → t ∈ r) (a b : Nat) : aBoundO e x a b = aBoundO e' x a b := by
  cases x with
  | none => rfl
  | some x => simp only [aBoundO]; rw [AX.ev_agree h (fun t ht => hx t (by simpa [rdO] using ht))]

theorem aP_agree {o : POp} {e e' : Env} (h : Agree o.rd e e') : aP o e = aP o e' := by
  have one : ∀ x : AX, (∀ t, t ∈ x.rd → t ∈ o.rd) → x.ev e = x.ev e' := fun x hx => AX.ev_agree h hx
  cases o with
  | build z ps =>
    simp only [aP]
    have : (ps.map fun p => (p.1, p.2.1, p.2.2.ev e)) = ps.map fun p => (p.1, p.2.1, p.2.2.ev e') := by
      refine List.map_congr_left fun p hp => ?_
      rw [one p.2.2 (fun t ht => by simp only [POp.rd, List.mem_flatMap]; exact ⟨p, hp, ht⟩)]
    rw [this]
  | mkFunc f l => simp only [aP]; rw [AX.map_agree h (fun t ht => by simpa [POp.rd] using ht)]
  | minmax m l => simp only [aP]; rw [AX.map_agree h (fun t ht => by simpa [POp.rd] using ht)]
  | sliceStr x lo hi =>
    simp only [aP, aSliceStr]
    rw [one x (fun t ht => by simp [POp.rd, ht])]
    simp only [aBoundO_agree h (x := lo) (fun t ht => by simp [POp.rd, ht]), aBoundO_agree h (x := hi) (fun t ht => by simp [POp.rd, ht])]
  | slice n x lo hi mx =>
    simp only [aP, aSlice]
    rw [one x (fun t ht => by simp [POp.rd, ht])]
    simp only [aBoundO_agree h (x := lo) (fun t ht => by simp [POp.rd, ht]), aBoundO_agree h (x := hi) (fun t ht => by simp [POp.rd, ht]), aBoundO_agree h (x := mx) (fun t ht => by simp [POp.rd, ht])]
  | pick c a b => simp only [aP]; rw [one c (fun t ht => by simp [POp.rd, ht]), one a (fun t ht => by simp [POp.rd, ht]), one b (fun t ht => by simp [POp.rd, ht])]
  | bin _ x y | eqB _ x y | eqS _ _ x y | eqP _ x y | eqN _ x y | idxArr _ _ x y | idxSlice _ x y | index _ _ _ x y | indexStr x y =>
    simp only [aP]; rw [one x (fun t ht => by simp [POp.rd, ht]), one y (fun t ht => by simp [POp.rd, ht])]
  | move x | nilCheck x | un _ x | cvInt _ x | cvStr x | fieldAddr _ x | field _ _ _ x | extract x _ | len _ x | cap x =>
    simp only [aP]; rw [one x (fun t ht => by simpa [POp.rd] using ht)]

theorem aL_agree {o : LOp} {e e' : Env} (h : Agree o.rd e e') (M : Heap) : aL o e M = aL o e' M := by
  have one : ∀ x : AX, (∀ t, t ∈ x.rd → t ∈ o.rd) → x.ev e = x.ev e' := fun x hx => AX.ev_agree h hx
  cases o with
  | lookup _ _ _ x y => simp only [aL]; rw [one x (fun t ht => by simp [LOp.rd, ht]), one y (fun t ht => by simp [LOp.rd, ht])]
  | load _ _ x | bytesStr x | mapLen x => simp only [aL]; rw [one x (fun t ht => by simpa [LOp.rd] using ht)]

theorem aK_agree {o : KOp} {e e' : Env} (h : Agree o.rd e e') : aK o e = aK o e' := by
  have one : ∀ x : AX, (∀ t, t ∈ x.rd → t ∈ o.rd) → x.ev e = x.ev e' := fun x hx => AX.ev_agree h hx
  cases o with
  | alloc _ => rfl
  | makeMap => rfl
  | buildSlice sz len z ps =>
    simp only [aK]
    have : (ps.map fun p => (p.1 * sz, sz, p.2.ev e)) = ps.map fun p => (p.1 * sz, sz, p.2.ev e') := by
      refine List.map_congr_left fun p hp => ?_
      rw [one p.2 (fun t ht => by simp only [KOp.rd, List.mem_flatMap]; exact ⟨p, hp, ht⟩)]
    rw [this]
  | makeSlice _ _ _ x y => simp only [aK]; rw [one x (fun t ht => by simp [KOp.rd, ht]), one y (fun t ht => by simp [KOp.rd, ht])]
  | box x | strBytes x => simp only [aK]; rw [one x (fun t ht => by simpa [KOp.rd] using ht)]

theorem aN_agree {C : ACalls} {o : NOp} {e e' : Env} (h : Agree o.rd e e') (M : Heap) : aN C o e M = aN C o e' M := by
  have one : ∀ x : AX, (∀ t, t ∈ x.rd → t ∈ o.rd) → x.ev e = x.ev e' := fun x hx => AX.ev_agree h hx
  cases o with
  | fail => rfl
  | call f l => simp only [aN]; rw [one f (fun t ht => by simp [NOp.rd, ht]), AX.map_agree h (fun t ht => by simp [NOp.rd, ht])]
  | mapUpdate _ x y z => simp only [aN]; rw [one x (fun t ht => by simp [NOp.rd, ht]), one y (fun t ht => by simp [NOp.rd, ht]), one z (fun t ht => by simp [NOp.rd, ht])]
  | clear _ _ x | cvBytes x => simp only [aN]; rw [one x (fun t ht => by simpa [NOp.rd] using ht)]
  | store _ x y | append _ _ x y | appendZ _ _ _ x y | copy _ x y | mapDelete _ x y =>
    simp only [aN]; rw [one x (fun t ht => by simp [NOp.rd, ht]), one y (fun t ht => by simp [NOp.rd, ht])]

/-! ### What reads sees no more than there is -/

def Heap.Sub (X Y : Heap) : Prop := ∀ b x, X.get b = some x → Y.get b = some x

theorem read_sub {X Y : Heap} (h : X.Sub Y) {b o n : Nat} {l : List AV} (hr : X.read b o n = some l) : Y.read b o n = some l := by
  unfold Heap.read at hr ⊢
  cases hb : X.get b with
  | none => simp [hb] at hr
  | some x => rw [hb] at hr; rw [h b x hb]; exact hr

theorem aL_sub {o : LOp} {e : Env} {X Y : Heap} (h : X.Sub Y) {v : AV} (hv : aL o e X = some v) : aL o e Y = some v := by
  cases o with
  | load g n x =>
    simp only [aL, aLoad] at hv ⊢
    split at hv
    case h_2 => cases hv
    rename_i b o' hx
    cases g with
    | true =>
      simp only [if_true] at hv ⊢
      obtain ⟨l, hl, rfl⟩ := Option.map_eq_some_iff.1 hv
      rw [read_sub h hl]
      rfl
    | false =>
      simp only [Bool.false_eq_true, if_false] at hv ⊢
      cases hb : X.get b with
      | none => simp [hb] at hv
      | some x => rw [hb] at hv; rw [h b x hb]; exact hv
  | bytesStr x =>
    simp only [aL, aBytesStr] at hv ⊢
    split at hv
    · exact hv
    · split at hv
      · rename_i h0
        rw [if_pos h0]
        exact hv
      rename_i h0
      rw [if_neg h0]
      obtain ⟨l, hl, rfl⟩ := Option.map_eq_some_iff.1 hv
      obtain ⟨cs, hcs, hl⟩ := Option.bind_eq_some_iff.1 hl
      rw [read_sub h hcs]
      simp [hl]
    · cases hv
  | mapLen x =>
    simp only [aL] at hv ⊢
    obtain ⟨l, hl, rfl⟩ := Option.map_eq_some_iff.1 hv
    rw [aEntries_sub h hl]
    rfl
  | lookup kd ok z x k =>
    simp only [aL, aLookup] at hv ⊢
    obtain ⟨l, hl, hv⟩ := Option.bind_eq_some_iff.1 hv
    rw [aEntries_sub h hl]
    exact hv
 where
  aEntries_sub {X Y : Heap} (h : X.Sub Y) {v : AV} {l : List (AV × AV)} (hl : aEntries v X = some l) : aEntries v Y = some l := by
    unfold aEntries at hl ⊢
    split at hl
    · exact hl
    · rename_i r
      cases hb : X.get r with
      | none => simp [hb] at hl
      | some x => rw [hb] at hl; rw [h r x hb]; exact hl
    · cases hl

mutual
theorem AV.eq_of_same : ∀ (a b : AV), AV.same a b = true → a = b
  | .bool a, .bool b, h => by simpa [AV.same] using h
  | .int k a, .int k' b, h => by simp [AV.same] at h; rw [h.1, h.2]
  | .str a, .str b, h => by simpa [AV.same] using h
  | .ptr a, .ptr b, h => by simpa [AV.same] using h
  | .slice a s l c e, .slice a' s' l' c' e', h => by simp [AV.same] at h; obtain ⟨⟨⟨⟨rfl, rfl⟩, rfl⟩, rfl⟩, rfl⟩ := h; rfl
  | .map a, .map b, h => by simpa [AV.same] using h
  | .func f cs, .func f' cs', h => by
    simp [AV.same] at h
    rw [h.1, AV.eq_of_sameL cs cs' h.2]
  | .nilFunc, .nilFunc, _ => rfl
  | .agg a, .agg b, h => by rw [AV.eq_of_sameL a b (by simpa [AV.same] using h)]
  | .tuple a, .tuple b, h => by rw [AV.eq_of_sameL a b (by simpa [AV.same] using h)]
  | .undef, _, h => by simp [AV.same] at h
  | .list .., _, h => by simp [AV.same] at h
  | .elem _, _, h => by simp [AV.same] at h
  | .acc .., _, h => by simp [AV.same] at h
  | .bool _, .undef, h | .bool _, .int .., h | .bool _, .str _, h | .bool _, .ptr _, h | .bool _, .slice .., h | .bool _, .map _, h | .bool _, .func .., h | .bool _, .nilFunc, h | .bool _, .agg _, h | .bool _, .tuple _, h | .bool _, .list .., h | .bool _, .elem _, h | .bool _, .acc .., h => by simp [AV.same] at h
  | .int .., .undef, h | .int .., .bool _, h | .int .., .str _, h | .int .., .ptr _, h | .int .., .slice .., h | .int .., .map _, h | .int .., .func .., h | .int .., .nilFunc, h | .int .., .agg _, h | .int .., .tuple _, h | .int .., .list .., h | .int .., .elem _, h | .int .., .acc .., h => by simp [AV.same] at h
  | .str _, .undef, h | .str _, .bool _, h | .str _, .int .., h | .str _, .ptr _, h | .str _, .slice .., h | .str _, .map _, h | .str _, .func .., h | .str _, .nilFunc, h | .str _, .agg _, h | .str _, .tuple _, h | .str _, .list .., h | .str _, .elem _, h | .str _, .acc .., h => by simp [AV.same] at h
  | .ptr _, .undef, h | .ptr _, .bool _, h | .ptr _, .int .., h | .ptr _, .str _, h | .ptr _, .slice .., h | .ptr _, .map _, h | .ptr _, .func .., h | .ptr _, .nilFunc, h | .ptr _, .agg _, h | .ptr _, .tuple _, h | .ptr _, .list .., h | .ptr _, .elem _, h | .ptr _, .acc .., h => by simp [AV.same] at h
  | .slice .., .undef, h | .slice .., .bool _, h | .slice .., .int .., h | .slice .., .str _, h | .slice .., .ptr _, h | .slice .., .map _, h | .slice .., .func .., h | .slice .., .nilFunc, h | .slice .., .agg _, h | .slice .., .tuple _, h | .slice .., .list .., h | .slice .., .elem _, h | .slice .., .acc .., h => by simp [AV.same] at h
  | .map _, .undef, h | .map _, .bool _, h | .map _, .int .., h | .map _, .str _, h | .map _, .ptr _, h | .map _, .slice .., h | .map _, .func .., h | .map _, .nilFunc, h | .map _, .agg _, h | .map _, .tuple _, h | .map _, .list .., h | .map _, .elem _, h | .map _, .acc .., h => by simp [AV.same] at h
  | .func .., .undef, h | .func .., .bool _, h | .func .., .int .., h | .func .., .str _, h | .func .., .ptr _, h | .func .., .slice .., h | .func .., .map _, h | .func .., .nilFunc, h | .func .., .agg _, h | .func .., .tuple _, h | .func .., .list .., h | .func .., .elem _, h | .func .., .acc .., h => by simp [AV.same] at h
  | .nilFunc, .undef, h | .nilFunc, .bool _, h | .nilFunc, .int .., h | .nilFunc, .str _, h | .nilFunc, .ptr _, h | .nilFunc, .slice .., h | .nilFunc, .map _, h | .nilFunc, .func .., h | .nilFunc, .agg _, h | .nilFunc, .tuple _, h | .nilFunc, .list .., h | .nilFunc, .elem _, h | .nilFunc, .acc .., h => by simp [AV.same] at h
  | .agg _, .undef, h | .agg _, .bool _, h | .agg _, .int .., h | .agg _, .str _, h | .agg _, .ptr _, h | .agg _, .slice .., h | .agg _, .map _, h | .agg _, .func .., h | .agg _, .nilFunc, h | .agg _, .tuple _, h | .agg _, .list .., h | .agg _, .elem _, h | .agg _, .acc .., h => by simp [AV.same] at h
  | .tuple _, .undef, h | .tuple _, .bool _, h | .tuple _, .int .., h | .tuple _, .str _, h | .tuple _, .ptr _, h | .tuple _, .slice .., h | .tuple _, .map _, h | .tuple _, .func .., h | .tuple _, .nilFunc, h | .tuple _, .agg _, h | .tuple _, .list .., h | .tuple _, .elem _, h | .tuple _, .acc .., h => by simp [AV.same] at h
theorem AV.eq_of_sameL : ∀ (a b : List AV), AV.sameL a b = true → a = b
  | [], [], _ => rfl
  | a :: l, b :: r, h => by
    simp [AV.sameL] at h
    rw [AV.eq_of_same a b h.1, AV.eq_of_sameL l r h.2]
  | [], _ :: _, h => by simp [AV.sameL] at h
  | _ :: _, [], h => by simp [AV.sameL] at h
end

theorem awanted_agree {g : Option (Nat × Bool)} {e e' : Env} (h : Agree (match g with | some (t, _) => [t] | none => []) e e') : awanted g e = awanted g e' := by
  cases g with
  | none => rfl
  | some p =>
    obtain ⟨t, b⟩ := p
    simp only [awanted]
    rw [h t (by simp)]

end Go.Proofs.Ytlcjmchhnbdepaa
end

section
/- The abstract machine, eleventh part: the core of the drawn regions, over places in the machine's own order. -/
set_option linter.unusedVariables false
set_option linter.unusedSimpArgs false
namespace Go.Proofs.Ytlcjmchhnbdepaa

def Heap.over (M : Heap) (X : Nat → Option Blk) : Heap := { M with get := fun i => match X i with | some x => some x | none => M.get i }

theorem over_some {M : Heap} {X : Nat → Option Blk} {i : Nat} {x : Blk} (h : X i = some x) : (M.over X).get i = some x := by simp [Heap.over, h]
theorem over_none {M : Heap} {X : Nat → Option Blk} {i : Nat} (h : X i = none) : (M.over X).get i = M.get i := by simp [Heap.over, h]

theorem R.sub {ι : Inj} {X Y : Heap} {w : World} (r : R ι Y w) (h : X.Sub Y) (hn : X.next = Y.next) : R ι X w where
  blk b x hx := r.blk b x (h b x hx)
  apart b b' x x' l l' h1 h2 := r.apart b b' x x' l l' (h _ _ h1) (h _ _ h2)
  fresh b hb := by
    have := r.fresh b (hn ▸ hb)
    refine ⟨?_, this.2⟩
    cases hx : X.get b with
    | none => rfl
    | some x => rw [h b x hx] at this; cases this.1

/-- What a step does not know of stays. -/
theorem Tr.frame {ι ι' : Inj} {M M' : Heap} {w w' : World} {X : Nat → Option Blk} (r : R ι (M.over X) w) (hX : ∀ i x, X i = some x → M.get i = none ∧ i < M.next ∧ x.own = true) (t : Tr ι M w ι' M' w') : Tr ι (M.over X) w ι' (M'.over X) w' := by
  have hMX : ∀ b x, M.get b = some x → X b = none := fun b x h => by
    cases hb : X b with
    | none => rfl
    | some y => rw [(hX b y hb).1] at h; cases h
  have hsub : M.Sub (M.over X) := fun b x h => by rw [over_none (hMX b x h)]; exact h
  have rM : R ι M w := r.sub hsub rfl
  have hle := t.le rM
  have hkeepX : ∀ i x l, X i = some x → ι i = some l → w'.heap[l.j]? = w.heap[l.j]? := fun i x l h hl =>
    t.keep l.j (r.heap_lt (over_some h) hl) fun b x' l' h1 h2 h3 => r.apart b i x' x l' l (hsub _ _ h1) (over_some h) h3 hl (fun e => by subst e; rw [(hX _ _ h).1] at h1; cases h1) (.inl h2)
  have mixed : ∀ i i' x x' l l', X i = some x → M'.get i' = some x' → ι i = some l → ι' i' = some l' → l.j ≠ l'.j := by
    intro i i' x x' l l' h1 h2 h3 h4 e
    have hlt := r.heap_lt (over_some h1) h3
    cases ho : x'.own with
    | true =>
      obtain ⟨b0, x0, l0, c1, c2, c3, c4⟩ := t.owned i' x' l' h2 ho h4 (e ▸ hlt)
      exact r.apart i b0 x x0 l l0 (over_some h1) (hsub _ _ c1) h3 c3 (fun e => by subst e; rw [(hX _ _ h1).1] at c1; cases c1) (.inr c2) (by rw [c4, e])
    | false =>
      have hm := t.ro i' x' h2 ho
      have h4' : ι i' = some l' := by rw [← t.agree i' (rM.lt hm)]; exact h4
      exact r.apart i i' x x' l l' (over_some h1) (hsub _ _ hm) h3 h4' (fun e => by subst e; rw [(hX _ _ h1).1] at hm; cases hm) (.inl (hX _ _ h1).2.2) e
  have agX : ∀ i x, X i = some x → ι' i = ι i := fun i x h => t.agree i (hX i x h).2.1
  constructor
  · constructor
    · intro i x hx
      cases hi : X i with
      | some y =>
        rw [over_some hi] at hx
        obtain rfl := Option.some.inj hx
        obtain ⟨l, o, h1, h2, h3⟩ := r.blk i y (over_some hi)
        exact ⟨l, o, hle _ _ h1, by rw [hkeepX i y l hi h1]; exact h2, h3.mono hle⟩
      | none =>
        rw [over_none hi] at hx
        exact t.rel.blk i x hx
    · intro i i' x x' l l' h1 h2 h3 h4 hne hor
      cases hi : X i with
      | some y =>
        rw [over_some hi] at h1
        obtain rfl := Option.some.inj h1
        rw [agX i y hi] at h3
        cases hi' : X i' with
        | some y' =>
          rw [over_some hi'] at h2
          obtain rfl := Option.some.inj h2
          rw [agX i' y' hi'] at h4
          exact r.apart i i' y y' l l' (over_some hi) (over_some hi') h3 h4 hne hor
        | none =>
          rw [over_none hi'] at h2
          exact mixed i i' y x' l l' hi h2 h3 h4
      | none =>
        rw [over_none hi] at h1
        cases hi' : X i' with
        | some y' =>
          rw [over_some hi'] at h2
          obtain rfl := Option.some.inj h2
          rw [agX i' y' hi'] at h4
          exact fun e => mixed i' i y' x l' l hi' h1 h4 h3 e.symm
        | none =>
          rw [over_none hi'] at h2
          exact t.rel.apart i i' x x' l l' h1 h2 h3 h4 hne hor
    · intro i hi
      have hxi : X i = none := by
        cases hx : X i with
        | none => rfl
        | some x =>
          have h1 := (hX i x hx).2.1
          have h2 := t.next
          have h3 : M'.next ≤ i := hi
          omega
      rw [over_none hxi]
      exact t.rel.fresh i hi
  · exact t.agree
  · exact t.next
  · intro i hi hd
    cases hx : X i with
    | some x => rw [over_some hx] at hd; cases hd
    | none =>
      rw [over_none hx] at hd ⊢
      exact t.dead i hi hd
  · intro i x hx ho
    cases hi : X i with
    | some y =>
      rw [over_some hi] at hx
      obtain rfl := Option.some.inj hx
      rw [(hX i y hi).2.2] at ho
      cases ho
    | none =>
      rw [over_none hi] at hx ⊢
      exact t.ro i x hx ho
  · intro i x l h1 h2 h3 h4
    cases hi : X i with
    | some y =>
      rw [over_some hi] at h1
      obtain rfl := Option.some.inj h1
      exact ⟨i, y, l, over_some hi, h2, by rw [← agX i y hi]; exact h3, rfl⟩
    | none =>
      rw [over_none hi] at h1
      obtain ⟨b0, x0, l0, c1, c2, c3, c4⟩ := t.owned i x l h1 h2 h3 h4
      exact ⟨b0, x0, l0, hsub _ _ c1, c2, c3, c4⟩
  · intro j hj hn
    exact t.keep j hj fun b x l h1 h2 h3 => hn b x l (hsub _ _ h1) h2 h3
  · exact t.size
  · exact t.os
  · exact t.tape
  · exact t.output

/-- A block comes to stand in a slot that was kept for it. -/
theorem Tr.slot {ι0 ι : Inj} {M0 X : Heap} {w0 w w' : World} (t : Tr ι0 M0 w0 ι X w) {id N : Nat} (h0 : M0.next ≤ id) (hlt : id < X.next) (hx : X.get id = none) (hi : ι id = none) {x : Blk} {ob : Obj} (ho : x.own = true) (hm : Made w w' ob)
    (hb : BR (ι.set id ⟨w.heap.size, 0, N⟩) x ⟨w.heap.size, 0, N⟩ ob) : Tr ι0 M0 w0 (ι.set id ⟨w.heap.size, 0, N⟩) (X.put id (some x)) w' := by
  have r := t.rel
  have hle := Inj.set_le hi ⟨w.heap.size, 0, N⟩
  have hset : ∀ i, i ≠ id → (ι.set id ⟨w.heap.size, 0, N⟩) i = ι i := fun i hi => by simp [Inj.set, hi]
  have hself : (ι.set id ⟨w.heap.size, 0, N⟩) id = some ⟨w.heap.size, 0, N⟩ := by simp [Inj.set]
  constructor
  · constructor
    · intro i y hy
      rw [put_get] at hy
      split at hy
      · rename_i hi
        subst hi
        obtain rfl := Option.some.inj hy
        exact ⟨_, ob, hself, hm.new, hb⟩
      · obtain ⟨l', o, h1, h2, h3⟩ := r.blk i y hy
        refine ⟨l', o, hle _ _ h1, ?_, h3.mono hle⟩
        rw [hm.old _ (r.heap_lt hy h1)]
        exact h2
    · intro i i' y y' l1 l2 h1 h2 h3 h4 hne hor
      rw [put_get] at h1 h2
      split at h1
      · rename_i hi
        subst hi
        rw [if_neg (Ne.symm hne)] at h2
        rw [hself] at h3
        obtain rfl := Option.some.inj h3
        rw [hset i' (Ne.symm hne)] at h4
        have := r.heap_lt h2 h4
        simp only
        omega
      · rename_i hi
        rw [hset i hi] at h3
        split at h2
        · rename_i hi'
          subst hi'
          rw [hself] at h4
          obtain rfl := Option.some.inj h4
          have := r.heap_lt h1 h3
          simp only
          omega
        · rename_i hi'
          rw [hset i' hi'] at h4
          exact r.apart i i' y y' l1 l2 h1 h2 h3 h4 hne hor
    · intro i hi
      have hi' : X.next ≤ i := hi
      have h2 : i ≠ id := by omega
      rw [put_get, if_neg h2, hset i h2]
      exact r.fresh i hi'
  · intro i hi
    rw [hset i (by omega)]
    exact t.agree i hi
  · exact t.next
  · intro i hi hd
    rw [put_get, if_neg (by omega)]
    exact t.dead i hi hd
  · intro i y hy hro
    rw [put_get] at hy
    split at hy
    · obtain rfl := Option.some.inj hy
      rw [ho] at hro
      cases hro
    · exact t.ro i y hy hro
  · intro i y l1 h1 h2 h3 h4
    rw [put_get] at h1
    split at h1
    · rename_i hi
      subst hi
      rw [hself] at h3
      obtain rfl := Option.some.inj h3
      have := t.size
      simp at h4
      omega
    · rename_i hi
      rw [hset i hi] at h3
      exact t.owned i y l1 h1 h2 h3 h4
  · intro j hj hn
    rw [hm.old j (by have := t.size; omega)]
    exact t.keep j hj hn
  · rw [hm.size]
    have := t.size
    omega
  · exact hm.os.trans t.os
  · exact hm.tape.trans t.tape
  · exact hm.output.trans t.output

/-! ### The machine's own run -/

def AOp.loud : AOp → Bool
  | .n _ => true
  | _ => false

def AOp.plain : AOp → Bool
  | .p _ => true
  | _ => false

structure DStep (C : ACalls) (base nk : Nat) (d : DOper) (e : Env) (M : Heap) (g : List Heap) (v : AV) (b : Bool) (blk : Option Blk) (e' : Env) (M' : Heap) (g' : List Heap) : Prop where
  env : e' = aput d.o.dst v e
  want : awanted d.o.guard e = some b
  hist : g' = if d.o.op.loud then g ++ [M] else g
  no : b = false → v = .tuple [] ∧ M' = M ∧ blk = none
  p : ∀ o, b = true → d.o.op = .p o → aP o e = some v ∧ M' = M ∧ blk = none
  l : ∀ o, b = true → d.o.op = .l o → aL o e (M.hide base nk) = some v ∧ M' = M ∧ blk = none ∧ ∀ k H, d.lo ≤ k → g[k]? = some H → aL o e (H.hide base nk) = some v
  k : ∀ o, b = true → d.o.op = .k o → ∃ x mk, aK o e = some (x, mk) ∧ v = mk.val (base + d.ix) ∧ M' = M.put (base + d.ix) (some x) ∧ blk = some x
  n : ∀ o, b = true → d.o.op = .n o → aN C o e M = some (v, M') ∧ blk = none

structure DRun (C : ACalls) (base nk : Nat) (ds : List DOper) (E : Nat → Env) (H : Nat → Heap) (G : Nat → List Heap) (V : Nat → AV) (W : Nat → Bool) (B : Nat → Option Blk) : Prop where
  step : ∀ p d, ds[p]? = some d → DStep C base nk d (E p) (H p) (G p) (V p) (W p) (B p) (E (p + 1)) (H (p + 1)) (G (p + 1))

theorem drun_of {C : ACalls} {base nk : Nat} : ∀ (ds : List DOper) (e : Env) (M : Heap) (g : List Heap) (e' : Env) (M' : Heap), adops C base nk ds e M g = some (e', M') →
    ∃ E H G V W B, DRun C base nk ds E H G V W B ∧ E 0 = e ∧ H 0 = M ∧ G 0 = g ∧ E ds.length = e' ∧ H ds.length = M'
  | [], e, M, g, e', M', h => by
    simp only [adops, Option.some.injEq, Prod.mk.injEq] at h
    obtain ⟨rfl, rfl⟩ := h
    exact ⟨fun _ => e, fun _ => M, fun _ => g, fun _ => .undef, fun _ => true, fun _ => none, ⟨fun p d h => by simp at h⟩, rfl, rfl, rfl, rfl, rfl⟩
  | d :: ds, e, M, g, e', M', h => by
    have cont : ∀ (v : AV) (b : Bool) (blk : Option Blk) (e1 : Env) (M1 : Heap) (g1 : List Heap), DStep C base nk d e M g v b blk e1 M1 g1 → adops C base nk ds e1 M1 g1 = some (e', M') →
        ∃ E H G V W B, DRun C base nk (d :: ds) E H G V W B ∧ E 0 = e ∧ H 0 = M ∧ G 0 = g ∧ E (d :: ds).length = e' ∧ H (d :: ds).length = M' := by
      intro v b blk e1 M1 g1 hs hr
      obtain ⟨E, H, G, V, W, B, hd, q1, q2, q3, q4, q5⟩ := drun_of ds e1 M1 g1 e' M' hr
      refine ⟨fun p => match p with | 0 => e | p + 1 => E p, fun p => match p with | 0 => M | p + 1 => H p, fun p => match p with | 0 => g | p + 1 => G p, fun p => match p with | 0 => v | p + 1 => V p, fun p => match p with | 0 => b | p + 1 => W p, fun p => match p with | 0 => blk | p + 1 => B p, ⟨fun p d' hp => ?_⟩, rfl, rfl, rfl, by simpa using q4, by simpa using q5⟩
      cases p with
      | zero =>
        simp at hp
        subst hp
        simp only [q1, q2, q3]
        exact hs
      | succ p => exact hd.step p d' (by simpa using hp)
    simp only [adops] at h
    split at h
    · rename_i hw
      split at h
      · rename_i o ho
        obtain ⟨v, hv, h⟩ := Option.bind_eq_some_iff.1 h
        refine cont v true none _ _ _ ?_ h
        constructor
        · rfl
        · exact hw
        · simp [ho, AOp.loud]
        · intro hb; cases hb
        · intro o' _ ho'
          rw [ho] at ho'
          injection ho' with ho'
          subst ho'
          exact ⟨hv, rfl, rfl⟩
        · intro o' _ ho'; rw [ho] at ho'; cases ho'
        · intro o' _ ho'; rw [ho] at ho'; cases ho'
        · intro o' _ ho'; rw [ho] at ho'; cases ho'
      · rename_i o ho
        obtain ⟨v, hv, h⟩ := Option.bind_eq_some_iff.1 h
        split at h
        case isFalse => cases h
        rename_i hall
        refine cont v true none _ _ _ ?_ h
        constructor
        · rfl
        · exact hw
        · simp [ho, AOp.loud]
        · intro hb; cases hb
        · intro o' _ ho'; rw [ho] at ho'; cases ho'
        · intro o' _ ho'
          rw [ho] at ho'
          injection ho' with ho'
          subst ho'
          refine ⟨hv, rfl, rfl, fun k X hk hX => ?_⟩
          have hmem : X ∈ g.drop d.lo := by
            refine List.mem_iff_getElem?.2 ⟨k - d.lo, ?_⟩
            rw [List.getElem?_drop]
            rw [show d.lo + (k - d.lo) = k from by omega]
            exact hX
          have := List.all_eq_true.1 hall X hmem
          split at this
          · rename_i u hu
            rw [hu, AV.eq_of_same _ _ this]
          · cases this
        · intro o' _ ho'; rw [ho] at ho'; cases ho'
        · intro o' _ ho'; rw [ho] at ho'; cases ho'
      · rename_i o ho
        obtain ⟨⟨x, mk⟩, hv, h⟩ := Option.bind_eq_some_iff.1 h
        refine cont (mk.val (base + d.ix)) true (some x) _ _ _ ?_ h
        constructor
        · rfl
        · exact hw
        · simp [ho, AOp.loud]
        · intro hb; cases hb
        · intro o' _ ho'; rw [ho] at ho'; cases ho'
        · intro o' _ ho'; rw [ho] at ho'; cases ho'
        · intro o' _ ho'
          rw [ho] at ho'
          injection ho' with ho'
          subst ho'
          exact ⟨x, mk, hv, rfl, rfl, rfl⟩
        · intro o' _ ho'; rw [ho] at ho'; cases ho'
      · rename_i o ho
        obtain ⟨⟨v, M1⟩, hv, h⟩ := Option.bind_eq_some_iff.1 h
        refine cont v true none _ M1 _ ?_ h
        constructor
        · rfl
        · exact hw
        · simp [ho, AOp.loud]
        · intro hb; cases hb
        · intro o' _ ho'; rw [ho] at ho'; cases ho'
        · intro o' _ ho'; rw [ho] at ho'; cases ho'
        · intro o' _ ho'; rw [ho] at ho'; cases ho'
        · intro o' _ ho'
          rw [ho] at ho'
          injection ho' with ho'
          subst ho'
          exact ⟨hv, rfl⟩
    · rename_i hw
      refine cont (.tuple []) false none _ _ _ ?_ h
      constructor
      · rfl
      · exact hw
      · cases ho : d.o.op <;> simp [AOp.loud]
      · intro _; exact ⟨rfl, rfl, rfl⟩
      · intro _ hb; cases hb
      · intro _ hb; cases hb
      · intro _ hb; cases hb
      · intro _ hb; cases hb
    · cases h

end Go.Proofs.Ytlcjmchhnbdepaa
end

section
/- The abstract machine, twelfth part: whatever order is drawn, the drawn region comes to what the machine's own order comes to. -/
set_option linter.unusedVariables false
set_option linter.unusedSimpArgs false
namespace Go.Proofs.Ytlcjmchhnbdepaa

def loudAt (ds : List DOper) (p : Nat) : Bool :=
  match ds[p]? with
  | some d => d.o.op.loud
  | none => false

def cntLoud (ds : List DOper) (q : Nat) : Nat := ((List.range q).filter (loudAt ds)).length

def AOp.isK : AOp → Bool
  | .k _ => true
  | _ => false
def AOp.isL : AOp → Bool
  | .l _ => true
  | _ => false

def isSlot (ds : List DOper) (s p : Nat) : Bool :=
  match ds[p]? with
  | some d => d.o.op.isK && d.ix == s
  | none => false
def slotAt (ds : List DOper) (s : Nat) : Option Nat := (List.range ds.length).find? (isSlot ds s)
def isDst (ds : List DOper) (t p : Nat) : Bool :=
  match ds[p]? with
  | some d => d.o.dst == some t
  | none => false
def writer (ds : List DOper) (t : Nat) : Option Nat := (List.range ds.length).find? (isDst ds t)

structure DCond (nk : Nat) (ds : List DOper) (anc : Nat → Nat → Prop) : Prop where
  lt : ∀ (p q : Nat), anc p q → p < q
  dst : ∀ (p q : Nat) (d d' : DOper) (t : Nat), ds[p]? = some d → ds[q]? = some d' → p ≠ q → d.o.dst = some t → d'.o.dst ≠ some t
  rd : ∀ (p q : Nat) (d d' : DOper) (t : Nat), ds[p]? = some d → ds[q]? = some d' → p ≠ q → d'.o.dst = some t → t ∈ d.o.rd → anc q p ∨ anc p q
  loud : ∀ (p q : Nat) (d d' : DOper), ds[p]? = some d → ds[q]? = some d' → p < q → d'.o.op.loud = true → d.o.op.plain = false → anc p q
  lo : ∀ (p : Nat) (d : DOper) (q : Nat), ds[p]? = some d → d.o.op.isL = true → q < p → loudAt ds q = true → cntLoud ds q < d.lo → anc q p
  ixlt : ∀ (p : Nat) (d : DOper), ds[p]? = some d → d.o.op.isK = true → d.ix < nk
  ix : ∀ (p q : Nat) (d d' : DOper), ds[p]? = some d → ds[q]? = some d' → d.o.op.isK = true → d'.o.op.isK = true → d.ix = d'.ix → p = q

theorem find_unique {n : Nat} {f : Nat → Bool} {p : Nat} (hp : p < n) (hf : f p = true) (hu : ∀ q, q < n → f q = true → q = p) : (List.range n).find? f = some p := by
  cases h : (List.range n).find? f with
  | none =>
    rw [List.find?_eq_none] at h
    exact absurd hf (h p (by simpa using hp))
  | some q =>
    have h1 := List.find?_some h
    have h2 := List.mem_of_find?_eq_some h
    rw [hu q (by simpa using h2) h1]

theorem slotAt_of {nk : Nat} {ds : List DOper} {anc : Nat → Nat → Prop} (c : DCond nk ds anc) {p : Nat} {d : DOper} (hp : ds[p]? = some d) (hk : d.o.op.isK = true) : slotAt ds d.ix = some p := by
  refine find_unique (List.getElem?_eq_some_iff.1 hp).1 (by simp [isSlot, hp, hk]) fun q hq h => ?_
  have hq' : ds[q]? = some ds[q] := by simp [hq]
  simp only [isSlot, hq', Bool.and_eq_true, beq_iff_eq] at h
  exact c.ix q p _ _ hq' hp h.1 hk h.2

theorem slotAt_some {ds : List DOper} {s p : Nat} (h : slotAt ds s = some p) : ∃ d, ds[p]? = some d ∧ d.o.op.isK = true ∧ d.ix = s := by
  have h1 := List.find?_some h
  unfold isSlot at h1
  split at h1
  · rename_i d hd
    simp at h1
    exact ⟨d, hd, h1.1, h1.2⟩
  · cases h1

theorem writer_of {nk : Nat} {ds : List DOper} {anc : Nat → Nat → Prop} (c : DCond nk ds anc) {p : Nat} {d : DOper} {t : Nat} (hp : ds[p]? = some d) (ht : d.o.dst = some t) : writer ds t = some p := by
  refine find_unique (List.getElem?_eq_some_iff.1 hp).1 (by simp [isDst, hp, ht]) fun q hq h => ?_
  have hq' : ds[q]? = some ds[q] := by simp [hq]
  simp only [isDst, hq', beq_iff_eq] at h
  rcases Nat.lt_or_ge q p with hlt | hge
  · exact absurd h (fun h => c.dst p q _ _ t hp hq' (by omega) ht h)
  · rcases Nat.eq_or_lt_of_le hge with e | hlt
    · exact e.symm
    · exact absurd h (fun h => c.dst p q _ _ t hp hq' (by omega) ht h)

theorem writer_some {ds : List DOper} {t p : Nat} (h : writer ds t = some p) : ∃ d, ds[p]? = some d ∧ d.o.dst = some t := by
  have h1 := List.find?_some h
  unfold isDst at h1
  split at h1
  · rename_i d hd
    exact ⟨d, hd, by simpa using h1⟩
  · cases h1

section
variable {C : ACalls} {base nk : Nat} {ds : List DOper} {E : Nat → Env} {H : Nat → Heap} {G : Nat → List Heap} {V : Nat → AV} {W : Nat → Bool} {B : Nat → Option Blk} {anc : Nat → Nat → Prop}

/-- The temporaries, some of the operations done. -/
def envOf (ds : List DOper) (e0 : Env) (V : Nat → AV) (S : Nat → Bool) : Env :=
  (List.range e0.length).map fun t => match writer ds t with
    | some p => if S p then V p else e0.getD t .undef
    | none => e0.getD t .undef

theorem envOf_length (e0 : Env) (S : Nat → Bool) : (envOf ds e0 V S).length = e0.length := by simp [envOf]

theorem envOf_getD (e0 : Env) (S : Nat → Bool) (t : Nat) : (envOf ds e0 V S).getD t .undef = if t < e0.length then (match writer ds t with | some p => if S p then V p else e0.getD t .undef | none => e0.getD t .undef) else .undef := by
  rw [List.getD_eq_getElem?_getD]
  simp only [envOf, List.getElem?_map]
  split
  · rename_i h
    simp [List.getElem?_range h]
  · rename_i h
    rw [List.getElem?_eq_none (by simpa using h)]
    rfl

theorem env_ext {e e' : Env} (hl : e.length = e'.length) (h : ∀ t, e.getD t .undef = e'.getD t .undef) : e = e' := by
  refine List.ext_getElem hl fun i h1 h2 => ?_
  have := h i
  rw [List.getD_eq_getElem?_getD, List.getD_eq_getElem?_getD, List.getElem?_eq_getElem h1, List.getElem?_eq_getElem h2] at this
  simpa using this

theorem aput_length (d : Option Nat) (v : AV) (e : Env) : (aput d v e).length = e.length := by cases d <;> simp [aput]

theorem aput_getD (d : Option Nat) (v : AV) (e : Env) (t : Nat) : (aput d v e).getD t .undef = if d = some t ∧ t < e.length then v else e.getD t .undef := by
  cases d with
  | none => simp [aput]
  | some d =>
    simp only [aput, List.getD_eq_getElem?_getD, List.getElem?_set, Option.some.injEq]
    by_cases hdt : d = t
    · subst hdt
      by_cases hl : d < e.length
      · simp [hl]
      · simp [hl]
    · simp [hdt]

/-- The machine's own temporaries. -/
theorem env_at (c : DCond nk ds anc) (r : DRun C base nk ds E H G V W B) : ∀ p, p ≤ ds.length → E p = envOf ds (E 0) V (fun q => decide (q < p))
  | 0, _ => by
    refine env_ext (envOf_length _ _).symm fun t => ?_
    rw [envOf_getD]
    split
    · cases writer ds t <;> simp
    · rename_i h
      rw [List.getD_eq_getElem?_getD, List.getElem?_eq_none (by omega)]
      rfl
  | p + 1, hp => by
    have hd : ds[p]? = some ds[p] := by simp [show p < ds.length from by omega]
    have ih := env_at c r p (by omega)
    rw [(r.step p _ hd).env, ih]
    refine env_ext (by rw [aput_length, envOf_length, envOf_length]) fun t => ?_
    rw [aput_getD, envOf_getD, envOf_getD, envOf_length]
    by_cases hl : t < (E 0).length
    · simp only [hl, and_true, if_true]
      split
      · rename_i hdst
        rw [writer_of c hd hdst]
        simp
      · rename_i hdst
        cases hw : writer ds t with
        | none => simp
        | some q =>
          have hqp : q ≠ p := by
            rintro rfl
            obtain ⟨d, hd', ht⟩ := writer_some hw
            rw [hd] at hd'
            obtain rfl := Option.some.inj hd'
            exact hdst ht
          simp only
          by_cases hq : q < p
          · simp [hq, show q < p + 1 from by omega]
          · simp [hq, show ¬ q < p + 1 from by omega]
    · simp [hl]

/-- What an operation reads is the same, whatever is done besides what is surely ahead. -/
theorem env_agree (c : DCond nk ds anc) (r : DRun C base nk ds E H G V W B) {S : Nat → Bool} (hcl : ∀ p q, S q = true → anc p q → S p = true) {p : Nat} {d : DOper} (hp : ds[p]? = some d) (hS : S p = false) (hpre : ∀ q, anc q p → S q = true) : Agree d.o.rd (E p) (envOf ds (E 0) V S) := by
  intro t ht
  have hplt := (List.getElem?_eq_some_iff.1 hp).1
  rw [env_at c r p (by omega), envOf_getD, envOf_getD]
  split
  · cases hw : writer ds t with
    | none => rfl
    | some q =>
      simp only
      obtain ⟨d', hd', hdst⟩ := writer_some hw
      by_cases hqp : q = p
      · subst hqp
        simp [hS]
      · rcases c.rd p q d d' t hp hd' (Ne.symm hqp) hdst ht with h | h
        · simp [c.lt _ _ h, hpre q h]
        · have : S q = false := by
            cases hq : S q with
            | false => rfl
            | true => rw [hcl p q hq h] at hS; cases hS
          have hlt := c.lt _ _ h
          simp [this, show ¬ q < p from by omega]
  · rfl

theorem env_put (c : DCond nk ds anc) {e0 : Env} {S : Nat → Bool} {p : Nat} {d : DOper} (hp : ds[p]? = some d) : envOf ds e0 V (fun q => q == p || S q) = aput d.o.dst (V p) (envOf ds e0 V S) := by
  refine env_ext (by rw [aput_length, envOf_length, envOf_length]) fun t => ?_
  rw [aput_getD, envOf_getD, envOf_getD, envOf_length]
  by_cases hl : t < e0.length
  · simp only [hl, and_true, if_true]
    by_cases hdst : d.o.dst = some t
    · rw [if_pos hdst, writer_of c hp hdst]
      simp
    · rw [if_neg hdst]
      cases hw : writer ds t with
      | none => rfl
      | some q =>
        have hqp : (q == p) = false := by
          cases hqp : q == p with
          | false => rfl
          | true =>
            have hqp := beq_iff_eq.1 hqp
            subst hqp
            obtain ⟨d', hd', ht⟩ := writer_some hw
            rw [hp] at hd'
            obtain rfl := Option.some.inj hd'
            exact absurd ht hdst
        simp [hqp]
  · simp [hl]

/-! ### The heap, some of the operations done -/

/-- Behind the last loud operation that is done stands 'q'. -/
def heapOf (base nk : Nat) (ds : List DOper) (H : Nat → Heap) (B : Nat → Option Blk) (q : Nat) (S : Nat → Bool) : Heap :=
  { next := (H q).next
    get := fun b => if base ≤ b ∧ b < base + nk then (match slotAt ds (b - base) with | some p => if p < q then (H q).get b else if S p then B p else none | none => none) else (H q).get b }

/-- From q to p no loud operation. -/
theorem heap_quiet (c : DCond nk ds anc) (r : DRun C base nk ds E H G V W B) {q : Nat} : ∀ p, q ≤ p → p ≤ ds.length → (∀ j, q ≤ j → j < p → loudAt ds j = false) →
    (H p).next = (H q).next ∧ (∀ b, ¬ (base ≤ b ∧ b < base + nk) → (H p).get b = (H q).get b) ∧
    ((∀ b p0, base ≤ b → b < base + nk → slotAt ds (b - base) = some p0 → q ≤ p0 → (H q).get b = none) → ∀ b, base ≤ b → b < base + nk → (H p).get b = match slotAt ds (b - base) with | some p0 => if q ≤ p0 ∧ p0 < p then B p0 else (H q).get b | none => (H q).get b) := by
  intro p
  induction p with
  | zero =>
    intro h1 h2 h3
    obtain rfl : q = 0 := by omega
    refine ⟨rfl, fun _ _ => rfl, fun _ b _ _ => ?_⟩
    cases slotAt ds (b - base) <;> simp
  | succ p ih =>
    intro h1 h2 h3
    rcases Nat.eq_or_lt_of_le h1 with e | hlt
    · subst e
      refine ⟨rfl, fun _ _ => rfl, fun _ b _ _ => ?_⟩
      cases hs : slotAt ds (b - base) with
      | none => rfl
      | some p0 => simp only; rw [if_neg (by omega)]
    · obtain ⟨i1, i2, i3⟩ := ih (by omega) (by omega) (fun j a b => h3 j a (by omega))
      have hd : ds[p]? = some ds[p] := by simp [show p < ds.length from by omega]
      have hloud : (ds[p]).o.op.loud = false := by
        have := h3 p (by omega) (by omega)
        simpa [loudAt, hd] using this
      have st := r.step p _ hd
      -- either nothing, or a slot
      have key : (H (p + 1) = H p ∧ B p = none) ∨ (∃ x, ds[p].o.op.isK = true ∧ W p = true ∧ B p = some x ∧ H (p + 1) = (H p).put (base + ds[p].ix) (some x)) := by
        cases hw : W p with
        | false => exact .inl ⟨(st.no hw).2.1, (st.no hw).2.2⟩
        | true =>
          cases ho : ds[p].o.op with
          | p o => exact .inl ⟨(st.p o hw ho).2.1, (st.p o hw ho).2.2⟩
          | l o => exact .inl ⟨(st.l o hw ho).2.1, (st.l o hw ho).2.2.1⟩
          | k o =>
            obtain ⟨x, mk, k1, k2, k3, k4⟩ := st.k o hw ho
            exact .inr ⟨x, by simp [AOp.isK], rfl, k4, k3⟩
          | n o => rw [ho] at hloud; cases hloud
      rcases key with ⟨hH, hB⟩ | ⟨x, hk, hw, hB, hH⟩
      · rw [hH]
        refine ⟨i1, i2, fun hn b b1 b2 => ?_⟩
        rw [i3 hn b b1 b2]
        cases hs : slotAt ds (b - base) with
        | none => rfl
        | some p0 =>
          simp only
          by_cases hp0 : p0 = p
          · subst hp0
            rw [if_neg (by omega), if_pos (by omega), hB, hn b p0 b1 b2 hs (by omega)]
          · by_cases h4 : q ≤ p0 ∧ p0 < p
            · rw [if_pos h4, if_pos (by omega)]
            · rw [if_neg h4, if_neg (by omega)]
      · have hslot := slotAt_of c hd hk
        have hix := c.ixlt p _ hd hk
        rw [hH]
        refine ⟨i1, fun b hb => ?_, fun hn b b1 b2 => ?_⟩
        · rw [put_get, if_neg (by omega)]
          exact i2 b hb
        · rw [put_get]
          by_cases hb : b = base + ds[p].ix
          · subst hb
            rw [if_pos rfl, show base + ds[p].ix - base = ds[p].ix from by omega, hslot]
            simp only
            rw [if_pos (by omega), hB]
          · rw [if_neg hb, i3 hn b b1 b2]
            cases hs : slotAt ds (b - base) with
            | none => rfl
            | some p0 =>
              simp only
              have hp0 : p0 ≠ p := by
                rintro rfl
                obtain ⟨d', hd', _, hix'⟩ := slotAt_some hs
                rw [hd] at hd'
                obtain rfl := Option.some.inj hd'
                omega
              by_cases h4 : q ≤ p0 ∧ p0 < p
              · rw [if_pos h4, if_pos (by omega)]
              · rw [if_neg h4, if_neg (by omega)]

theorem hist_at (r : DRun C base nk ds E H G V W B) (h0 : G 0 = []) : ∀ p, p ≤ ds.length → G p = ((List.range p).filter (loudAt ds)).map H
  | 0, _ => by simp [h0]
  | p + 1, hp => by
    have hd : ds[p]? = some ds[p] := by simp [show p < ds.length from by omega]
    rw [(r.step p _ hd).hist, hist_at r h0 p (by omega), List.range_succ, List.filter_append, List.map_append]
    cases hl : ds[p].o.op.loud <;> simp [loudAt, hd, hl]

theorem hist_get (r : DRun C base nk ds E H G V W B) (h0 : G 0 = []) {p j : Nat} (hp : p ≤ ds.length) (hj : j < p) (hl : loudAt ds j = true) : (G p)[cntLoud ds j]? = some (H j) := by
  rw [hist_at r h0 p hp]
  have e : List.range p = List.range j ++ (List.range' j (p - j)) := by
    have h1 := List.range'_append (s := 0) (m := j) (n := p - j) (step := 1)
    rw [List.range_eq_range', List.range_eq_range']
    simp at h1
    rw [h1]
    congr 1
    omega
  have e2 : List.range' j (p - j) = j :: List.range' (j + 1) (p - j - 1) := by
    obtain ⟨m, hm⟩ : ∃ m, p - j = m + 1 := ⟨p - j - 1, by omega⟩
    rw [hm, List.range'_succ]
    simp
  rw [e, e2, List.filter_append, List.filter_cons, if_pos hl, List.map_append]
  rw [List.getElem?_append_right (by simp [cntLoud])]
  simp [cntLoud]

end

end Go.Proofs.Ytlcjmchhnbdepaa
end
