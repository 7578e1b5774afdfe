/- The abstract machine, first part: abstract values, heaps, operations, and the interpreter. Over whatever program; nothing is proved here. -/
import Derived.Calls
import Derived.KernelRfl
set_option linter.unusedVariables false
namespace Go.Proofs.Ytachollgbplikaa

/-- Values of the machine ('list', 'elem', 'acc': of the machine over it alone, see Am25: a slice that nobody writes to, with its cells; a pointer into one; a slice of one's own): a slice bears the size of an element, its length, a lower bound of its capacity, and whether that bound is the capacity. 'undef': not known. -/
inductive AV where
  | undef
  | bool (b : Bool)
  | int (k : IntKind) (n : Int)
  | str (s : List UInt8)
  | ptr (a : Option (Nat × Nat))
  | slice (a : Option (Nat × Nat)) (sz len cap : Nat) (exact : Bool)
  | map (r : Option Nat)
  | func (f : FuncId) (caps : List AV)
  | nilFunc
  | agg (cs : List AV)
  | tuple (vs : List AV)
  | list (sz len : Nat) (cs : List AV) (ex : Bool)
  | elem (cs : List AV)
  | acc (b o sz n : Nat) (w : Bool)

instance : Inhabited AV := ⟨.undef⟩

def AV.isCell : AV → Bool
  | .undef | .agg _ | .tuple _ => false
  | _ => true

def AV.cells? : AV → Option (List AV)
  | .agg cs => if cs.all AV.isCell then some cs else none
  | .undef | .tuple _ => none
  | v => some [v]

mutual
def AV.same : AV → AV → Bool
  | .bool a, .bool b => a == b
  | .int k a, .int k' b => k == k' && a == b
  | .str a, .str b => a == b
  | .ptr a, .ptr b => a == b
  | .slice a s l c e, .slice a' s' l' c' e' => a == a' && s == s' && l == l' && c == c' && e == e'
  | .map a, .map b => a == b
  | .func f cs, .func f' cs' => f == f' && AV.sameL cs cs'
  | .nilFunc, .nilFunc => true
  | .agg a, .agg b => AV.sameL a b
  | .tuple a, .tuple b => AV.sameL a b
  | _, _ => false
def AV.sameL : List AV → List AV → Bool
  | [], [] => true
  | a :: l, b :: r => AV.same a b && AV.sameL l r
  | _, _ => false
end

/-- A block: cells (what came in is only read; 'slack': there may be more cells than are known), or a map. -/
inductive Blk where
  | cells (c : List AV) (ro slack : Bool)
  | map (es : List (AV × AV))

structure Heap where
  get : Nat → Option Blk
  next : Nat

def Heap.put (M : Heap) (b : Nat) (x : Option Blk) : Heap := { M with get := fun i => if i = b then x else M.get i }
def Heap.push (M : Heap) (x : Blk) : Heap := { get := fun i => if i = M.next then some x else M.get i, next := M.next + 1 }
def Heap.hide (M : Heap) (base n : Nat) : Heap := { M with get := fun i => if base ≤ i ∧ i < base + n then none else M.get i }
def Heap.empty : Heap := { get := fun _ => .none, next := 0 }

def Heap.read (M : Heap) (b o n : Nat) : Option (List AV) :=
  match M.get b with
  | some (.cells c _ _) => if o + n ≤ c.length then some ((c.drop o).take n) else .none
  | _ => .none

def Heap.write (M : Heap) (b o : Nat) (new : List AV) : Option Heap :=
  match M.get b with
  | some (.cells c false sl) =>
    if o + new.length ≤ c.length then some (M.put b (some (.cells (c.take o ++ new ++ c.drop (o + new.length)) false sl))) else .none
  | _ => .none

inductive AX where
  | t (n : Nat)
  | c (v : AV)

abbrev Env := List AV

def AX.ev (e : Env) : AX → AV
  | .t n => e.getD n .undef
  | .c v => v

/-- Kinds of cells that are held against each other. -/
inductive Kd where
  | b | i | s
  deriving DecidableEq

inductive POp where
  | move (x : AX)
  | pick (c a b : AX)
  | build (zero : List AV) (parts : List (Nat × Nat × AX))
  | nilCheck (x : AX)
  | bin (op : BinOp) (x y : AX)
  | eqB (neg : Bool) (x y : AX)
  | eqS (neg : Bool) (ks : List Kd) (x y : AX)
  | eqP (neg : Bool) (x y : AX)
  | eqN (neg : Bool) (x y : AX)
  | un (op : UnOp) (x : AX)
  | cvInt (k : IntKind) (x : AX)
  | cvStr (x : AX)
  | mkFunc (f : FuncId) (caps : List AX)
  | sliceStr (x : AX) (lo hi : Option AX)
  | slice (sz : Nat) (x : AX) (lo hi mx : Option AX)
  | fieldAddr (off : Nat) (x : AX)
  | field (agg : Bool) (off n : Nat) (x : AX)
  | idxArr (n sz : Nat) (x i : AX)
  | idxSlice (sz : Nat) (x i : AX)
  | index (agg : Bool) (n sz : Nat) (x i : AX)
  | indexStr (x i : AX)
  | extract (x : AX) (i : Nat)
  | len (isStr : Bool) (x : AX)
  | cap (x : AX)
  | minmax (isMax : Bool) (xs : List AX)

inductive LOp where
  | load (agg : Bool) (n : Nat) (x : AX)
  | bytesStr (x : AX)
  | mapLen (x : AX)
  | lookup (ok : Bool) (zero : AV) (x k : AX)

inductive KOp where
  | alloc (zero : List AV)
  | box (x : AX)
  | buildSlice (sz len : Nat) (zero : List AV) (parts : List (Nat × AX))
  | makeSlice (sz bytes : Nat) (zero : List AV) (len cap : AX)
  | strBytes (x : AX)
  | makeMap

inductive NOp where
  | store (n : Nat) (a v : AX)
  | call (f : AX) (args : List AX)
  | append (sz bytes : Nat) (s x : AX)
  | appendZ (sz bytes : Nat) (zero : List AV) (s n : AX)
  | copy (sz : Nat) (d s : AX)
  | clear (sz : Nat) (zero : List AV) (x : AX)
  | mapUpdate (m k v : AX)
  | mapDelete (m k : AX)
  | cvBytes (x : AX)
  | fail

inductive AOp where
  | p (o : POp)
  | l (o : LOp)
  | k (o : KOp)
  | n (o : NOp)

structure AOper where
  dst : Option Nat
  op : AOp
  guard : Option (Nat × Bool)

/-- An operation of a region whose order is drawn: in the order in which the machine takes them. 'lo': how many of the loud ones are surely ahead. 'ix': which of the new blocks. -/
structure DOper where
  o : AOper
  lo : Nat
  ix : Nat

inductive ACode where
  | skip
  | reg (ops : List AOper)
  | dreg (nk : Nat) (ops : List DOper)
  | seq (a b : ACode)
  | cond (c : AX) (a b : ACode)
  | block (id : Nat) (c : ACode)
  | loop (keep : List Nat) (c : ACode)
  | exit (id : Nat)
  | ret
  | fail

inductive ARes where
  | tmp (t : Nat)
  | cell (t : Nat) (agg : Bool) (n : Nat)

structure AFunc where
  nargs : Nat
  ntmps : Nat
  code : ACode
  results : List ARes

/-! ### Pure operations -/

def aInts (op : BinOp) (k : IntKind) (x y : Int) : Option AV :=
  match op with
  | .add => some (.int k (k.wrap (x + y)))
  | .sub => some (.int k (k.wrap (x - y)))
  | .mul => some (.int k (k.wrap (x * y)))
  | .quo => if y = 0 then none else some (.int k (k.wrap (x.tdiv y)))
  | .rem => if y = 0 then none else some (.int k (x.tmod y))
  | .and => some (.int k (k.wrap (BitVec.ofInt k.bits x &&& BitVec.ofInt k.bits y).toNat))
  | .or => some (.int k (k.wrap (BitVec.ofInt k.bits x ||| BitVec.ofInt k.bits y).toNat))
  | .xor => some (.int k (k.wrap (BitVec.ofInt k.bits x ^^^ BitVec.ofInt k.bits y).toNat))
  | .andNot => some (.int k (k.wrap (BitVec.ofInt k.bits x &&& ~~~BitVec.ofInt k.bits y).toNat))
  | .eql => some (.bool (x == y))
  | .neq => some (.bool (x != y))
  | .lss => some (.bool (x < y))
  | .leq => some (.bool (x ≤ y))
  | .gtr => some (.bool (x > y))
  | .geq => some (.bool (x ≥ y))
  | .shl | .shr => none

def aStrs (op : BinOp) (x y : List UInt8) : Option AV :=
  match op with
  | .add => if x.length + y.length ≤ 4611686018427387904 then some (.str (x ++ y)) else none
  | .eql => some (.bool (x == y))
  | .neq => some (.bool !(x == y))
  | .lss => some (.bool (Op.bytesLess x y))
  | .leq => some (.bool (Op.bytesLess x y || x == y))
  | .gtr => some (.bool !(Op.bytesLess x y || x == y))
  | .geq => some (.bool !(Op.bytesLess x y))
  | _ => none

def aBin (op : BinOp) (x y : AV) : Option AV :=
  match x, y with
  | .int k a, .int k' b =>
    match op with
    | .shl => if b < 0 then none else some (.int k (k.wrap (a * 2 ^ (min b.toNat k.bits))))
    | .shr => if b < 0 then none else some (.int k (a.fdiv (2 ^ (min b.toNat k.bits))))
    | _ => if k = k' then aInts op k a b else none
  | .str a, .str b => aStrs op a b
  | _, _ => none

def aEqK (k : Kd) (x y : AV) : Option Bool :=
  match k, x, y with
  | .b, .bool a, .bool b => some (a == b)
  | .i, .int k a, .int k' b => if k = k' then some (a == b) else none
  | .s, .str a, .str b => some (a == b)
  | _, _, _ => none

def aEqKs : List Kd → List AV → List AV → Option Bool
  | [], [], [] => some true
  | k :: ks, a :: l, b :: r =>
    match aEqK k a b, aEqKs ks l r with
    | some x, some y => some (x && y)
    | _, _ => none
  | _, _, _ => none

def aEqP : AV → AV → Option Bool
  | .ptr .none, .ptr b => some b.isNone
  | .ptr (some _), .ptr .none => some false
  | .ptr (some a), .ptr (some b) => if a.1 = b.1 then some (a.2 == b.2) else none
  | _, _ => none

def aEqN : AV → AV → Option Bool
  | .slice .none _ _ _ _, .slice b _ _ _ _ => some b.isNone
  | .slice (some _) _ _ _ _, .slice .none _ _ _ _ => some false
  | _, _ => none

def aUn (op : UnOp) (x : AV) : Option AV :=
  match op, x with
  | .neg, .int k n => some (.int k (k.wrap (0 - n)))
  | .xor, .int k n => some (.int k (k.wrap (BitVec.ofInt k.bits (if k.signed then -1 else k.max) ^^^ BitVec.ofInt k.bits n).toNat))
  | .not, .bool b => some (.bool !b)
  | _, _ => none

/-- The parts laid into the zero value's cells. -/
def aFill : List AV → List (Nat × Nat × AV) → Option (List AV)
  | cs, [] => some cs
  | cs, (off, n, v) :: r =>
    match v.cells? with
    | some l => if l.length = n ∧ off + n ≤ cs.length then aFill (cs.take off ++ l ++ cs.drop (off + n)) r else none
    | none => none

/-- A bound of a slice expression. -/
def aBound (v : AV) (most : Nat) : Option Nat :=
  match v with
  | .int _ i => if 0 ≤ i ∧ i ≤ (most : Int) then some i.toNat else none
  | _ => none

def aBoundO (e : Env) (x : Option AX) (other most : Nat) : Option Nat :=
  match x with
  | some x => aBound (x.ev e) most
  | none => some other

def aShift (a : Option (Nat × Nat)) (n : Nat) : Option (Nat × Nat) := a.map fun p => (p.1, p.2 + n)

def aSliceStr (s : List UInt8) (e : Env) (lo hi : Option AX) : Option AV :=
  (aBoundO e hi s.length s.length).bind fun h => (aBoundO e lo 0 h).bind fun l => some (.str ((s.drop l).take (h - l)))

def aSlice (sz : Nat) (a : Option (Nat × Nat)) (sz' len cap : Nat) (ex : Bool) (e : Env) (lo hi mx : Option AX) : Option AV :=
  if a = none ∨ sz' = sz then
    match mx with
    | none => (aBoundO e hi len cap).bind fun h => (aBoundO e lo 0 h).bind fun l => some (.slice (aShift a (l * sz)) sz (h - l) (cap - l) ex)
    | some _ => (aBoundO e mx cap cap).bind fun m => match hi with
      | none => none
      | some _ => (aBoundO e hi len m).bind fun h => (aBoundO e lo 0 h).bind fun l => some (.slice (aShift a (l * sz)) sz (h - l) (m - l) true)
  else none

def aMinMax (isMax : Bool) : AV → AV → Option AV
  | .int k x, .int k' y => if k = k' then some (.int k (if isMax then (if y > x then y else x) else (if y < x then y else x))) else none
  | _, _ => none

def aFold (isMax : Bool) : AV → List AV → Option AV
  | x, [] => some x
  | x, y :: r => (aMinMax isMax x y).bind fun z => aFold isMax z r

def aPart (agg : Bool) (off n : Nat) (cs : List AV) : Option AV :=
  if agg then some (.agg ((cs.drop off).take n)) else cs[off]?

def aP (o : POp) (e : Env) : Option AV :=
  match o with
  | .move x => some (x.ev e)
  | .pick c a b => match c.ev e with
    | .bool true => some (a.ev e)
    | .bool false => some (b.ev e)
    | _ => none
  | .build zero parts => (aFill zero (parts.map fun p => (p.1, p.2.1, p.2.2.ev e))).map .agg
  | .nilCheck x => match x.ev e with
    | .ptr (some a) => some (.ptr (some a))
    | .func f cs => some (.func f cs)
    | _ => none
  | .bin op x y => aBin op (x.ev e) (y.ev e)
  | .eqB neg x y => (aEqK .b (x.ev e) (y.ev e)).map fun b => .bool (if neg then !b else b)
  | .eqS neg ks x y => match x.ev e, y.ev e with
    | .agg a, .agg b => (aEqKs ks a b).map fun b => .bool (if neg then !b else b)
    | _, _ => none
  | .eqP neg x y => (aEqP (x.ev e) (y.ev e)).map fun b => .bool (if neg then !b else b)
  | .eqN neg x y => (aEqN (x.ev e) (y.ev e)).map fun b => .bool (if neg then !b else b)
  | .un op x => aUn op (x.ev e)
  | .cvInt k x => match x.ev e with
    | .int _ n => some (.int k (k.wrap n))
    | _ => none
  | .cvStr x => match x.ev e with
    | .str s => some (.str s)
    | _ => none
  | .mkFunc f cs => some (.func f (cs.map (AX.ev e)))
  | .sliceStr x lo hi => match x.ev e with
    | .str s => aSliceStr s e lo hi
    | _ => none
  | .slice sz x lo hi mx => match x.ev e with
    | .slice a sz' len cap ex => aSlice sz a sz' len cap ex e lo hi mx
    | _ => none
  | .fieldAddr off x => match x.ev e with
    | .ptr (some a) => some (.ptr (some (a.1, a.2 + off)))
    | _ => none
  | .field agg off n x => match x.ev e with
    | .agg cs => aPart agg off n cs
    | _ => none
  | .idxArr n sz x i => match x.ev e, i.ev e with
    | .ptr (some a), .int _ j => if 0 ≤ j ∧ j < (n : Int) then some (.ptr (some (a.1, a.2 + j.toNat * sz))) else none
    | _, _ => none
  | .idxSlice sz x i => match x.ev e, i.ev e with
    | .slice (some a) sz' len cap ex, .int _ j => if 0 ≤ j ∧ j < (len : Int) ∧ sz' = sz then some (.ptr (some (a.1, a.2 + j.toNat * sz))) else none
    | _, _ => none
  | .index agg n sz x i => match x.ev e, i.ev e with
    | .agg cs, .int _ j => if 0 ≤ j ∧ j < (n : Int) then aPart agg (j.toNat * sz) sz cs else none
    | _, _ => none
  | .indexStr x i => match x.ev e, i.ev e with
    | .str s, .int _ j => if 0 ≤ j then (s[j.toNat]?).map fun b => .int .u8 b.toNat else none
    | _, _ => none
  | .extract x i => match x.ev e with
    | .tuple vs => vs[i]?
    | _ => none
  | .len isStr x => match isStr, x.ev e with
    | true, .str s => some (.int .i64 s.length)
    | false, .slice _ _ len _ _ => some (.int .i64 len)
    | _, _ => none
  | .cap x => match x.ev e with
    | .slice _ _ _ cap true => some (.int .i64 cap)
    | _ => none
  | .minmax isMax xs => match xs.map (AX.ev e) with
    | x :: r => aFold isMax x r
    | [] => none

/-! ### Operations that read -/

def toBytes : List AV → Option (List UInt8)
  | [] => some []
  | .int .u8 n :: r => (toBytes r).map (UInt8.ofNat n.toNat :: ·)
  | _ :: _ => none

def aLoad (agg : Bool) (n : Nat) (v : AV) (M : Heap) : Option AV :=
  match v with
  | .ptr (some (b, o)) => if agg then (M.read b o n).map .agg else match M.get b with
    | some (.cells c _ _) => c[o]?
    | _ => none
  | _ => none

def aSliceCells (v : AV) (n : Nat) (M : Heap) : Option (List AV) :=
  match v with
  | .slice .none _ _ _ _ => some []
  | .slice (some (b, o)) sz _ _ _ => M.read b o (n * sz)
  | _ => none

def aBytesStr (v : AV) (M : Heap) : Option AV :=
  match v with
  | .slice .none _ _ _ _ => some (.str [])
  | .slice (some (b, o)) 1 len _ _ => if len = 0 then some (.str []) else ((M.read b o len).bind toBytes).map .str
  | _ => none

def aKeyEq : AV → AV → Option Bool
  | .bool a, .bool b => some (a == b)
  | .int k a, .int k' b => if k = k' then some (a == b) else none
  | .str a, .str b => some (a == b)
  | _, _ => none

/-- Where a key stands: 'none': the keys cannot be held against each other. -/
def aFind (k : AV) : List (AV × AV) → Nat → Option (Option (Nat × AV))
  | [], _ => some none
  | e :: r, i => match aKeyEq k e.1 with
    | some true => some (some (i, e.2))
    | some false => aFind k r (i + 1)
    | none => none

def aEntries (v : AV) (M : Heap) : Option (List (AV × AV)) :=
  match v with
  | .map .none => some []
  | .map (some r) => match M.get r with
    | some (.map es) => some es
    | _ => none
  | _ => none

def aLookup (ok : Bool) (zero v k : AV) (M : Heap) : Option AV :=
  (aEntries v M).bind fun es => (aFind k es 0).map fun r =>
    let p : AV × Bool := match r with
      | some (_, x) => (x, true)
      | none => (zero, false)
    if ok then .tuple [p.1, .bool p.2] else p.1

def aL (o : LOp) (e : Env) (M : Heap) : Option AV :=
  match o with
  | .load agg n x => aLoad agg n (x.ev e) M
  | .bytesStr x => aBytesStr (x.ev e) M
  | .mapLen x => (aEntries (x.ev e) M).map fun es => .int .i64 es.length
  | .lookup ok zero x k => aLookup ok zero (x.ev e) (k.ev e) M

/-! ### Operations that make a block -/

inductive Mk where
  | ptr
  | slice (sz len cap : Nat) (ex : Bool)
  | map

def Mk.val (k : Mk) (b : Nat) : AV :=
  match k with
  | .ptr => .ptr (some (b, 0))
  | .slice sz len cap ex => .slice (some (b, 0)) sz len cap ex
  | .map => .map (some b)

def reps (n : Nat) (zero : List AV) : List AV :=
  match n with
  | 0 => []
  | n + 1 => zero ++ reps n zero

def aMakeSlice (sz bytes : Nat) (zero : List AV) (l c : AV) : Option (Blk × Mk) :=
  match l, c with
  | .int _ l, .int _ c =>
    if 0 ≤ l ∧ l ≤ c ∧ c ≤ 4611686018427387904 ∧ bytes * c.toNat ≤ 281474976710656 then some (.cells (reps c.toNat zero) false false, .slice sz l.toNat c.toNat true) else none
  | _, _ => none

def aK (o : KOp) (e : Env) : Option (Blk × Mk) :=
  match o with
  | .alloc zero => some (.cells zero false false, .ptr)
  | .box x => (x.ev e).cells?.map fun cs => (.cells cs false false, .ptr)
  | .buildSlice sz len zero parts =>
    (aFill (reps len zero) (parts.map fun p => (p.1 * sz, sz, p.2.ev e))).map fun cs => (.cells cs false false, .slice sz len len true)
  | .makeSlice sz bytes zero l c => aMakeSlice sz bytes zero (l.ev e) (c.ev e)
  | .strBytes x => match x.ev e with
    | .str s => if s.length ≤ 70368744177664 then some (.cells (s.map fun b => .int .u8 b.toNat) false true, .slice 1 s.length s.length false) else none
    | _ => none
  | .makeMap => some (.map [], .map)

/-! ### Loud operations -/

def aStore (n : Nat) (a v : AV) (M : Heap) : Option (AV × Heap) :=
  match a, v.cells? with
  | .ptr (some (b, o)), some cs => if cs.length = n then (M.write b o cs).map fun M => (.tuple [], M) else none
  | _, _ => none

/-- append: within what is surely there, the same block; over a capacity that is known, a new one; else one that takes the old one's place. -/
def aAppend (sz bytes : Nat) (s : AV) (n : Nat) (new : List AV) (M : Heap) : Option (AV × Heap) :=
  match s with
  | .slice a sz' len cap ex =>
    if a ≠ none ∧ sz' ≠ sz then none
    else if len + n ≤ cap then
      match a with
      | none => if n = 0 then some (.slice none sz len cap ex, M) else none
      | some (b, o) => if n = 0 then some (.slice (some (b, o)) sz len cap ex, M)
        else (M.write b (o + len * sz) new).map fun M => (.slice (some (b, o)) sz (len + n) cap ex, M)
    else if (len + n) * bytes ≤ 70368744177664 ∧ len + n ≤ 70368744177664 then
      match a with
      | none => some (.slice (some (M.next, 0)) sz (len + n) (len + n) false, M.push (.cells new false true))
      | some (b, o) => (if ex = true ∧ len = 0 then some [] else M.read b o (len * sz)).bind fun old =>
        if ex then some (.slice (some (M.next, 0)) sz (len + n) (len + n) false, M.push (.cells (old ++ new) false true))
        else match M.get b with
          | some (.cells _ false _) => some (.slice (some (M.next, 0)) sz (len + n) (len + n) false, (M.put b none).push (.cells (old ++ new) false true))
          | _ => none
    else none
  | _ => none

def aElems (x : AV) (M : Heap) : Option (Nat × List AV) :=
  match x with
  | .slice .none _ len _ _ => some (len, [])
  | .slice (some (b, o)) sz len _ _ => if len = 0 then some (0, []) else (M.read b o (len * sz)).map fun cs => (len, cs)
  | .str s => some (s.length, s.map fun b => .int .u8 b.toNat)
  | _ => none

def aElemSize (x : AV) (sz : Nat) : Bool :=
  match x with
  | .slice .none _ len _ _ => len == 0
  | .slice (some _) sz' _ _ _ => sz' == sz
  | .str _ => sz == 1
  | _ => false

def aCopy (sz : Nat) (d s : AV) (M : Heap) : Option (AV × Heap) :=
  match d with
  | .slice a sz' len _ _ =>
    if (a = none ∨ sz' = sz) ∧ aElemSize s sz then
      (aElems s M).bind fun p =>
        let n := min p.1 len
        match a with
        | none => some (.int .i64 n, M)
        | some (b, o) => if n = 0 then some (.int .i64 n, M) else (M.write b o (p.2.take (n * sz))).map fun M => (.int .i64 n, M)
    else none
  | _ => none

def aClear (sz : Nat) (zero : List AV) (x : AV) (M : Heap) : Option (AV × Heap) :=
  match x with
  | .slice .none _ _ _ _ => some (.tuple [], M)
  | .slice (some (b, o)) sz' len _ _ => if sz' = sz then (if len = 0 then some (.tuple [], M) else (M.write b o (reps len zero)).map fun M => (.tuple [], M)) else none
  | _ => none

def aMapUpdate (m k v : AV) (M : Heap) : Option (AV × Heap) :=
  match m with
  | .map (some r) => match M.get r with
    | some (.map es) =>
      if v.isCell = false ∧ (v.cells?).isNone then none else
      (aFind k es 0).bind fun p => match p with
      | some (i, _) => some (.tuple [], M.put r (some (.map (es.set i (k, v)))))
      | none => if k.isCell then some (.tuple [], M.put r (some (.map (es ++ [(k, v)])))) else none
    | _ => none
  | _ => none

def aMapDelete (m k : AV) (M : Heap) : Option (AV × Heap) :=
  match m with
  | .map (some r) => match M.get r with
    | some (.map es) => (aFind k es 0).bind fun p => match p with
      | some (i, _) => some (.tuple [], M.put r (some (.map (es.eraseIdx i))))
      | none => some (.tuple [], M)
    | _ => none
  | _ => none

/-- '[]byte(..)' of a constant text: its row gets a mark that no cell bears. -/
def aCvBytes (x : AV) (M : Heap) : Option (AV × Heap) :=
  match x with
  | .slice (some (b, o)) sz len cap ex => if cap = 0 then none else match M.get b with
    | some (.cells c false sl) => some (.slice (some (b, o)) sz len cap ex, M.put b (some (.cells c false sl)))
    | _ => none
  | _ => none

abbrev ACalls := FuncId → List AV → Heap → Option (AV × Heap)

def aCall (C : ACalls) (f : AV) (args : List AV) (M : Heap) : Option (AV × Heap) :=
  match f with
  | .func g caps => C g (args ++ caps) M
  | _ => none

def aN (C : ACalls) (o : NOp) (e : Env) (M : Heap) : Option (AV × Heap) :=
  match o with
  | .store n a v => aStore n (a.ev e) (v.ev e) M
  | .call f args => aCall C (f.ev e) (args.map (AX.ev e)) M
  | .append sz bytes s x =>
    if aElemSize (x.ev e) sz then (aElems (x.ev e) M).bind fun p => aAppend sz bytes (s.ev e) p.1 p.2 M else none
  | .appendZ sz bytes zero s n => match n.ev e with
    | .int _ n => if 0 < n ∧ n ≤ 70368744177664 ∧ bytes * n.toNat ≤ 281474976710656 then aAppend sz bytes (s.ev e) n.toNat (reps n.toNat zero) M else none
    | _ => none
  | .copy sz d s => aCopy sz (d.ev e) (s.ev e) M
  | .clear sz zero x => aClear sz zero (x.ev e) M
  | .mapUpdate m k v => aMapUpdate (m.ev e) (k.ev e) (v.ev e) M
  | .mapDelete m k => aMapDelete (m.ev e) (k.ev e) M
  | .cvBytes x => aCvBytes (x.ev e) M
  | .fail => none

def aop (C : ACalls) (o : AOp) (e : Env) (M : Heap) : Option (AV × Heap) :=
  match o with
  | .p o => (aP o e).map fun v => (v, M)
  | .l o => (aL o e M).map fun v => (v, M)
  | .k o => (aK o e).map fun r => (r.2.val M.next, M.push r.1)
  | .n o => aN C o e M

/-! ### Regions, code, calls -/

def aput (d : Option Nat) (v : AV) (e : Env) : Env :=
  match d with
  | some d => e.set d v
  | none => e

/-- Is the operation wanted? 'none': not known. -/
def awanted (g : Option (Nat × Bool)) (e : Env) : Option Bool :=
  match g with
  | none => some true
  | some (t, want) => match e.getD t .undef with
    | .bool b => some (b == want)
    | .tuple _ => some false
    | _ => none

def aops (C : ACalls) : List AOper → Env → Heap → Option (Env × Heap)
  | [], e, M => some (e, M)
  | o :: r, e, M => match awanted o.guard e with
    | some true => (aop C o.op e M).bind fun p => aops C r (aput o.dst p.1 e) p.2
    | some false => aops C r (aput o.dst (.tuple []) e) M
    | none => none

def adops (C : ACalls) (base nk : Nat) : List DOper → Env → Heap → List Heap → Option (Env × Heap)
  | [], e, M, _ => some (e, M)
  | d :: r, e, M, hist => match awanted d.o.guard e with
    | some true => match d.o.op with
      | .p o => (aP o e).bind fun v => adops C base nk r (aput d.o.dst v e) M hist
      | .l o => (aL o e (M.hide base nk)).bind fun v =>
        if (hist.drop d.lo).all (fun H => match aL o e (H.hide base nk) with | some u => AV.same u v | none => false) then adops C base nk r (aput d.o.dst v e) M hist else none
      | .k o => (aK o e).bind fun p => adops C base nk r (aput d.o.dst (p.2.val (base + d.ix)) e) (M.put (base + d.ix) (some p.1)) hist
      | .n o => (aN C o e M).bind fun p => adops C base nk r (aput d.o.dst p.1 e) p.2 (hist ++ [M])
    | some false => adops C base nk r (aput d.o.dst (.tuple []) e) M (match d.o.op with | .n _ => hist ++ [M] | _ => hist)
    | none => none

inductive Ex where
  | normal
  | exit (id : Nat)
  | ret
  deriving DecidableEq

def keepOnly (keep : List Nat) : Nat → Env → Env
  | _, [] => []
  | i, v :: r => (if keep.contains i then v else .undef) :: keepOnly keep (i + 1) r

abbrev AOut := Option (Ex × Env × Heap)

def aloop (body : Env → Heap → AOut) (keep : List Nat) : Nat → Env → Heap → AOut
  | 0, _, _ => none
  | k + 1, e, M => match body (keepOnly keep 0 e) M with
    | some (.normal, e', M') => aloop body keep k e' M'
    | r => r

def aexec (C : ACalls) (K : Nat) : ACode → Env → Heap → AOut
  | .skip, e, M => some (.normal, e, M)
  | .reg ops, e, M => (aops C ops e M).map fun p => (.normal, p)
  | .dreg nk ops, e, M => (adops C M.next nk ops e { M with next := M.next + nk } []).map fun p => (.normal, p)
  | .seq a b, e, M => match aexec C K a e M with
    | some (.normal, e', M') => aexec C K b e' M'
    | r => r
  | .cond c a b, e, M => match c.ev e with
    | .bool true => aexec C K a e M
    | .bool false => aexec C K b e M
    | _ => none
  | .block id c, e, M => match aexec C K c e M with
    | some (.exit i, e', M') => if i = id then some (.normal, e', M') else some (.exit i, e', M')
    | r => r
  | .loop keep c, e, M => aloop (aexec C K c) keep K e M
  | .exit id, e, M => some (.exit id, e, M)
  | .ret, e, M => some (.ret, e, M)
  | .fail, _, _ => none

def aRes (r : ARes) (e : Env) (M : Heap) : Option AV :=
  match r with
  | .tmp t => match e.getD t .undef with
    | .undef => none
    | v => some v
  | .cell t agg n => aLoad agg n (e.getD t .undef) M

def aResL : List ARes → Env → Heap → Option (List AV)
  | [], _, _ => some []
  | r :: l, e, M => (aRes r e M).bind fun v => (aResL l e M).map (v :: ·)

def aResults (l : List ARes) (e : Env) (M : Heap) : Option AV :=
  (aResL l e M).map fun vs => match vs with
    | [v] => v
    | vs => .tuple vs

def abody (C : ACalls) (K : Nat) (f : AFunc) (args : List AV) (M : Heap) : Option (AV × Heap) :=
  if args.length = f.nargs ∧ f.nargs ≤ f.ntmps then
    match aexec C K f.code (args ++ List.replicate (f.ntmps - f.nargs) (.tuple [])) M with
    | some (.normal, e, M') => (aResults f.results e M').map fun v => (v, M')
    | some (.ret, e, M') => (aResults f.results e M').map fun v => (v, M')
    | _ => none
  else none

/-- Calls: a function that is known by a summary, or by its code. -/
def acall (G : FuncId → Option (List AV → Heap → Option (AV × Heap))) (T : FuncId → Option AFunc) (K : Nat) : Nat → ACalls
  | 0, _, _, _ => none
  | d + 1, f, args, M => match G f with
    | some g => g args M
    | none => match T f with
      | some af => abody (acall G T K d) K af args M
      | none => none

end Go.Proofs.Ytachollgbplikaa
