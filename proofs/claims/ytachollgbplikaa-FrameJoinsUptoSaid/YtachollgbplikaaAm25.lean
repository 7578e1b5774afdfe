/- The machine over the abstract machine ('V'): slices that nobody writes to are lists; each call, and each round of a loop, leaves only what is still reached. Definitions. -/
import Derived.Test.YtachollgbplikaaAm23
set_option linter.all false
namespace Go.Proofs.Ytachollgbplikaa
noncomputable section

/-! ### What a value names -/

mutual
def idsOf : AV → List Nat
  | .ptr (some p) => [p.1]
  | .slice (some p) _ _ _ _ => [p.1]
  | .map (some r) => [r]
  | .acc b _ _ _ _ => [b]
  | .func _ cs => idsOfL cs
  | .agg cs => idsOfL cs
  | .tuple cs => idsOfL cs
  | _ => []
def idsOfL : List AV → List Nat
  | [] => []
  | v :: r => idsOf v ++ idsOfL r
end

/-- A value that bears nothing that is named. -/
def AV.flat : AV → Bool
  | .ptr (some _) | .slice (some _) _ _ _ _ | .map (some _) | .func _ (_ :: _) | .agg _ | .tuple _ | .acc .. => false
  | _ => true

def ixOf : List Nat → Nat → Option Nat
  | [], _ => none
  | a :: r, b => if a = b then some 0 else (ixOf r b).map (· + 1)

/-- A block's new name: those below the mark keep theirs. -/
def renId (m : Nat) (p : List Nat) (b : Nat) : Option Nat := if b < m then some b else (ixOf p b).map (m + ·)

mutual
def ren (m : Nat) (p : List Nat) : AV → AV
  | .ptr (some q) => match renId m p q.1 with
    | some b => .ptr (some (b, q.2))
    | none => .undef
  | .slice (some q) sz len cap ex => match renId m p q.1 with
    | some b => .slice (some (b, q.2)) sz len cap ex
    | none => .undef
  | .map (some r) => match renId m p r with
    | some b => .map (some b)
    | none => .undef
  | .acc b o sz n w => match renId m p b with
    | some b' => .acc b' o sz n w
    | none => .undef
  | .func f cs => .func f (renL m p cs)
  | .agg cs => .agg (renL m p cs)
  | .tuple cs => .tuple (renL m p cs)
  | v => v
def renL (m : Nat) (p : List Nat) : List AV → List AV
  | [] => []
  | v :: r => ren m p v :: renL m p r
end

/-! ### Frames -/

/-- Blocks below 'mark' are older than the frame; of these, those in 'tidy' may be given what is younger. -/
structure Fr where
  mark : Nat
  tidy : List Nat

def okStore (fr : Fr) (b : Nat) (cs : List AV) : Bool := decide (fr.mark ≤ b) || fr.tidy.contains b || (idsOfL cs).isEmpty

def Heap.cut (M : Heap) (n : Nat) : Heap := { get := fun i => if i < n then M.get i else none, next := n }
def Heap.skip (M : Heap) : Heap := { M with next := M.next + 1 }

def cellsOf (H : Heap) (b : Nat) : List AV := match H.get b with
  | some (.cells c _ _) => c
  | _ => []

def grow (H : Heap) (ids : List Nat) : List Nat := ids ++ ids.flatMap fun b => idsOfL (cellsOf H b)
def reach (H : Heap) (ids : List Nat) : List Nat := grow H (grow H (grow H ids))

def ddup (seen : List Nat) : List Nat → List Nat
  | [] => []
  | a :: r => if seen.contains a then ddup seen r else a :: ddup (a :: seen) r

def gcIds (m : Nat) (H : Heap) (roots : List Nat) : List Nat := ddup [] ((reach H roots).filter fun b => decide (m ≤ b) && (H.get b).isSome)

def renBlk (m : Nat) (p : List Nat) : Blk → Blk
  | .cells c ro sl => .cells (renL m p c) ro sl
  | .map es => .map es

def gcTidy (m : Nat) (p : List Nat) (H : Heap) : List Nat → Heap → Heap
  | [], X => X
  | b :: r, X => gcTidy m p H r (if b < m then (match H.get b with
    | some (.cells c ro sl) => X.put b (some (.cells (renL m p c) ro sl))
    | _ => X) else X)

def gcPush (m : Nat) (p : List Nat) (H : Heap) : List Nat → Heap → Heap
  | [], X => X
  | b :: r, X => gcPush m p H r (match H.get b with
    | some (.cells c ro sl) => X.push (.cells (renL m p c) ro sl)
    | _ => X.skip)

/-- Only what is reached stays, under new names. -/
def gc (fr : Fr) (vs : List AV) (H : Heap) : List AV × Heap :=
  let p := gcIds fr.mark H (idsOfL vs ++ fr.tidy)
  (renL fr.mark p vs, gcPush fr.mark p H p (gcTidy fr.mark p H fr.tidy (H.cut fr.mark)))

/-! ### Freezing -/

def frzL (g : AV → Option (AV × List Nat)) : List AV → Option (List AV × List Nat)
  | [] => some ([], [])
  | v :: r => match g v, frzL g r with
    | some p, some q => some (p.1 :: q.1, p.2 ++ q.2)
    | _, _ => none

/-- A slice's cells, frozen. -/
def frzS (g : AV → Option (AV × List Nat)) (b sz n : Nat) (ex : Bool) (x : Option (List AV)) : Option (AV × List Nat) := match x with
  | some cs => match frzL g cs with
    | some p => some (.list sz n p.1 ex, b :: p.2)
    | none => none
  | none => none

/-- A value as it stands: its slices are lists; and the blocks that nobody may write to any more. 'nested': in a list nothing may be named. -/
def frz (H : Heap) : Nat → Bool → AV → Option (AV × List Nat)
  | 0, _, v => if v.flat then some (v, []) else none
  | k + 1, nested, v => match v with
    | .acc b o sz n _ => frzS (frz H k true) b sz n false (H.read b o (n * sz))
    | .slice (some q) sz len cap ex => if len = 0 then some (.list sz 0 [] (ex && cap == 0), []) else if cap < len then none else frzS (frz H k true) q.1 sz len (ex && cap == len) (H.read q.1 q.2 (len * sz))
    | .slice none sz len cap ex => if len = 0 ∧ cap = 0 ∧ ex = true then some (.list sz 0 [] true, []) else some (.slice none sz len cap ex, [])
    | .ptr (some q) => if nested then none else some (.ptr (some q), [])
    | .map (some r) => if nested then none else some (.map (some r), [])
    | .func f cs => (frzL (frz H k nested) cs).map fun p => (.func f p.1, p.2)
    | .agg cs => (frzL (frz H k nested) cs).map fun p => (.agg p.1, p.2)
    | .tuple cs => (frzL (frz H k nested) cs).map fun p => (.tuple p.1, p.2)
    | v => some (v, [])

def iceB : Option Blk → Option Blk
  | some (.cells c _ sl) => some (.cells c true sl)
  | x => x

/-- Nobody may write to these any more. -/
def Heap.ice (H : Heap) (S : List Nat) : Heap := { H with get := fun i => if S.contains i then iceB (H.get i) else H.get i }

/-- What was written to, frozen; nothing younger is named. -/
def frzTidy (H : Heap) (m : Nat) : List Nat → Heap → Option (Heap × List Nat)
  | [], X => some (X, [])
  | b :: r, X => if b < m then (match H.get b with
    | some (.cells c ro sl) => match frzL (frz H 5 false) c with
      | some p => if (idsOfL p.1).all (fun i => decide (i < m)) then (frzTidy H m r (X.put b (some (.cells p.1 ro sl)))).map fun q => (q.1, p.2 ++ q.2) else none
      | none => none
    | _ => frzTidy H m r X) else frzTidy H m r X

/-! ### What is empty, or whole, as one's own -/

/-- 'z': how great an element is, of nothing. -/
def sol1 (z : Nat) (v : AV) (H : Heap) : AV × Heap := match v with
  | .slice none _ 0 0 true => (.acc H.next 0 z 0 true, H.push (.cells [] false true))
  | .slice (some q) sz len cap ex => if q.2 = 0 ∧ cap = len then (match H.get q.1 with
    | some (.cells c _ _) => if c.length = len * sz then (.acc q.1 0 sz len true, H) else (.slice (some q) sz len cap ex, H)
    | _ => (.slice (some q) sz len cap ex, H)) else (.slice (some q) sz len cap ex, H)
  | v => (v, H)

/-- 'z = 0': frozen. -/
def solz (z : Nat) (v : AV) (H : Heap) : AV × Heap := match z with
  | 0 => match frz H 5 false v with
    | some p => (p.1, H.ice p.2)
    | none => (v, H)
  | z + 1 => sol1 (z + 1) v H

def solL : List Nat → List AV → Heap → List AV × Heap
  | _, [], H => ([], H)
  | zs, v :: r, H => ((solz (zs.headD 1) v H).1 :: (solL zs.tail r (solz (zs.headD 1) v H).2).1, (solL zs.tail r (solz (zs.headD 1) v H).2).2)

def solV (zs : List Nat) (v : AV) (H : Heap) : AV × Heap := match v with
  | .tuple vs => (.tuple (solL zs vs H).1, (solL zs vs H).2)
  | v => solz (zs.headD 1) v H

/-! ### Operations -/

def vSlice (sz : Nat) (sz' len : Nat) (cs : List AV) (ex : Bool) (lo hi mx : Option AX) : Option AV :=
  if sz' = sz then
    match mx with
    | none => (aBoundO [] hi len len).bind fun h => (aBoundO [] lo 0 h).bind fun l => some (.list sz (h - l) ((cs.drop (l * sz)).take ((h - l) * sz)) (ex && h == len))
    | some _ => (aBoundO [] mx len len).bind fun m => match hi with
      | none => none
      | some _ => (aBoundO [] hi len m).bind fun h => (aBoundO [] lo 0 h).bind fun l => some (.list sz (h - l) ((cs.drop (l * sz)).take ((h - l) * sz)) (h == m))
  else none

/-- Of one's own: only all of it may grow. -/
def vSliceA (sz b off sz' n : Nat) (w : Bool) (lo hi mx : Option AX) : Option AV :=
  if sz' = sz then
    match mx with
    | none => (aBoundO [] hi n n).bind fun h => (aBoundO [] lo 0 h).bind fun l => some (.acc b (off + l * sz) sz (h - l) (w && l == 0 && h == n))
    | some _ => (aBoundO [] mx n n).bind fun m => match hi with
      | none => none
      | some _ => (aBoundO [] hi n m).bind fun h => (aBoundO [] lo 0 h).bind fun l => some (.acc b (off + l * sz) sz (h - l) (w && l == 0 && h == n))
  else none

/-- Whole numbers and texts, closed to the kernel (it would count great numbers up, one by one). -/
def kBin : BinOp → AV → AV → Option AV := Classical.choose (⟨aBin, rfl⟩ : ∃ f, f = aBin)
theorem kBin_eq : kBin = aBin := Classical.choose_spec (⟨aBin, rfl⟩ : ∃ f, f = aBin)

def vP (o : POp) : Option AV :=
  match o with
  | .bin op x y => kBin op (x.ev []) (y.ev [])
  | .slice sz x lo hi mx => match x.ev [] with
    | .list sz' len cs ex => vSlice sz sz' len cs ex lo hi mx
    | .acc b off sz' n w => vSliceA sz b off sz' n w lo hi mx
    | _ => aP o []
  | .idxSlice sz x i => match x.ev [] with
    | .list sz' len cs ex => match i.ev [] with
      | .int _ j => if 0 ≤ j ∧ j < (len : Int) ∧ sz' = sz then some (.elem (cs.drop (j.toNat * sz))) else none
      | _ => none
    | .acc b off sz' n _ => match i.ev [] with
      | .int _ j => if 0 ≤ j ∧ j < (n : Int) ∧ sz' = sz then some (.ptr (some (b, off + j.toNat * sz))) else none
      | _ => none
    | _ => aP o []
  | .idxArr n sz x i => match x.ev [] with
    | .elem cs => match i.ev [] with
      | .int _ j => if 0 ≤ j ∧ j < (n : Int) then some (.elem (cs.drop (j.toNat * sz))) else none
      | _ => none
    | _ => aP o []
  | .fieldAddr off x => match x.ev [] with
    | .elem cs => some (.elem (cs.drop off))
    | _ => aP o []
  | .nilCheck x => match x.ev [] with
    | .elem cs => some (.elem cs)
    | _ => aP o []
  | .len false x => match x.ev [] with
    | .list _ len _ _ => some (.int .i64 len)
    | .acc _ _ _ n _ => some (.int .i64 n)
    | _ => aP o []
  | .cap x => match x.ev [] with
    | .list _ len _ true => some (.int .i64 len)
    | _ => aP o []
  | .eqN neg x y => match x.ev [], y.ev [] with
    | .list _ (_ + 1) _ _, .slice none _ _ _ _ => some (.bool neg)
    | .slice none _ _ _ _, .list _ (_ + 1) _ _ => some (.bool neg)
    | _, _ => aP o []
  | _ => aP o []

def vL (o : LOp) (H : Heap) : Option AV :=
  match o with
  | .load agg n x => match x.ev [] with
    | .elem cs => if agg then (if n ≤ cs.length ∧ 0 < n then some (.agg (cs.take n)) else none) else cs[0]?
    | v => aLoad agg n v H
  | .bytesStr x => match x.ev [] with
    | .list sz len cs _ => if sz = 1 then (toBytes cs).map .str else none
    | .acc b off sz n _ => if sz = 1 then ((H.read b off n).bind toBytes).map .str else none
    | v => aBytesStr v H
  | _ => none

def vK (o : KOp) : Option (Blk × Mk) :=
  match o with
  | .makeMap => none
  | o => aK o []

def vElems (x : AV) (H : Heap) : Option (Nat × List AV) :=
  match x with
  | .list _ len cs _ => some (len, cs)
  | .acc b off sz n _ => (H.read b off (n * sz)).map fun cs => (n, cs)
  | x => aElems x H

def vElemSize (x : AV) (sz : Nat) : Bool :=
  match x with
  | .list sz' _ _ _ => sz' == sz
  | .acc _ _ sz' _ _ => sz' == sz
  | x => aElemSize x sz

def fitsB (bytes k : Nat) : Bool := decide (k * bytes ≤ 70368744177664 ∧ k ≤ 70368744177664)

def vAppend (fr : Fr) (sz bytes : Nat) (s : AV) (n : Nat) (new : List AV) (H : Heap) : Option (AV × Heap) :=
  match s with
  | .list sz' len cs ex =>
    if sz' = sz then
      if n = 0 then some (.list sz' len cs ex, H)
      else if ex = true ∧ fitsB bytes (len + n) = true then
        some (.acc H.next 0 sz (len + n) true, H.push (.cells (cs ++ new) false true))
      else none
    else none
  | .acc b o sz' len w =>
    if sz' = sz then
      if n = 0 then some (.acc b o sz' len w, H)
      else if w = true ∧ fitsB bytes (len + n) = true then
        match H.get b with
        | some (.cells cs false _) => if cs.length = len * sz then some (.acc H.next 0 sz (len + n) true, (H.put b none).push (.cells (cs ++ new) false true)) else none
        | _ => none
      else none
    else none
  | .slice none _ 0 0 true =>
    if fitsB bytes n = true then some (.acc H.next 0 sz n true, H.push (.cells new false true)) else none
  | .slice (some _) sz' 0 0 true =>
    if sz' = sz ∧ fitsB bytes n = true then some (.acc H.next 0 sz n true, H.push (.cells new false true)) else none
  | .slice (some q) sz' len cap ex =>
    if sz' = sz then
      if n = 0 then (if len ≤ cap then some (sol1 1 (.slice (some q) sz' len cap ex) H) else none)
      else if len + n ≤ cap then
        if okStore fr q.1 new then (H.write q.1 (q.2 + len * sz) new).map fun H => (.slice (some q) sz (len + n) cap ex, H) else none
      else if fitsB bytes (len + n) = true then
        match H.get q.1 with
        | some (.cells cs false _) => if q.2 = 0 ∧ cap = len ∧ cs.length = len * sz then some (.acc H.next 0 sz (len + n) true, (H.put q.1 none).push (.cells (cs ++ new) false true)) else none
        | _ => none
      else none
    else none
  | _ => none

def ptrOk (fr : Fr) (a v : AV) : Bool :=
  match a, v.cells? with
  | .ptr (some q), some cs => okStore fr q.1 cs
  | _, _ => true

def slOk (fr : Fr) (d : AV) (new : List AV) : Bool :=
  match d with
  | .slice (some q) _ _ _ _ => okStore fr q.1 new
  | _ => true

def vCopy (fr : Fr) (sz : Nat) (d s : AV) (H : Heap) : Option (AV × Heap) :=
  match d with
  | .slice a sz' len _ _ =>
    if (a = none ∨ sz' = sz) ∧ vElemSize s sz then
      (vElems s H).bind fun p =>
        let n := min p.1 len
        match a with
        | none => some (.int .i64 n, H)
        | some (b, o) => if n = 0 then some (.int .i64 n, H) else if okStore fr b (p.2.take (n * sz)) then (H.write b o (p.2.take (n * sz))).map fun H => (.int .i64 n, H) else none
    else none
  | .acc b o sz' len _ =>
    if sz' = sz ∧ vElemSize s sz then
      (vElems s H).bind fun p =>
        let n := min p.1 len
        if n = 0 then some (.int .i64 n, H) else if okStore fr b (p.2.take (n * sz)) then (H.write b o (p.2.take (n * sz))).map fun H => (.int .i64 n, H) else none
    else none
  | _ => none

abbrev VCalls := Fr → FuncId → List AV → Heap → Option (AV × Heap)

def vN (C : VCalls) (fr : Fr) (o : NOp) (H : Heap) : Option (AV × Heap) :=
  match o with
  | .store n a v => if ptrOk fr (a.ev []) (v.ev []) then aStore n (a.ev []) (v.ev []) H else none
  | .call f args => match f.ev [] with
    | .func g caps => C fr g (args.map (AX.ev []) ++ caps) H
    | _ => none
  | .append sz bytes s x =>
    if vElemSize (x.ev []) sz then (vElems (x.ev []) H).bind fun p => vAppend fr sz bytes (s.ev []) p.1 p.2 H else none
  | .appendZ sz bytes zero s n => match n.ev [] with
    | .int _ n => if 0 < n ∧ n ≤ 70368744177664 ∧ bytes * n.toNat ≤ 281474976710656 then (match s.ev [] with
      | .slice none _ 0 0 true => if fitsB bytes n.toNat = true then some (.slice (some (H.next, 0)) sz n.toNat n.toNat false, H.push (.cells (reps n.toNat zero) false true)) else none
      | _ => none) else none
    | _ => none
  | .copy sz d s => vCopy fr sz (d.ev []) (s.ev []) H
  | .clear sz zero x => if slOk fr (x.ev []) zero then aClear sz zero (x.ev []) H else none
  | .cvBytes x => aCvBytes (x.ev []) H
  | _ => none

def vop (C : VCalls) (fr : Fr) (o : AOp) (H : Heap) : Option (AV × Heap) :=
  match o with
  | .p o => (vP o).map fun v => (v, H)
  | .l o => (vL o H).map fun v => (v, H)
  | .k o => (vK o).map fun r => (r.2.val H.next, H.push r.1)
  | .n o => vN C fr o H

/-! ### Regions -/

def vops (C : VCalls) (fr : Fr) (n : Nat) : List AOper → Fast → Heap → Option (Fast × Heap)
  | [], l, H => some (l, H)
  | o :: r, l, H => match bwanted o.guard l with
    | some true => match vop C fr (o.op.sub (look l)) H with
      | some p => vops C fr n r (bput n o.dst p.1 l) p.2
      | none => none
    | some false => vops C fr n r (bput n o.dst (.tuple []) l) H
    | none => none

/-- How many loud operations there had been when what a temporary bears was known. -/
def bornOf : List (Nat × Nat) → Nat → Nat
  | [], _ => 0
  | p :: r, t => if p.1 = t then p.2 else bornOf r t

def bornX (bt : List (Nat × Nat)) : AX → Nat
  | .t t => bornOf bt t
  | .c _ => 0

def bornXs (bt : List (Nat × Nat)) : List AX → Nat
  | [] => 0
  | x :: r => max (bornX bt x) (bornXs bt r)

def bornXO (bt : List (Nat × Nat)) : Option AX → Nat
  | none => 0
  | some x => bornX bt x

/-- Of the pure operations that hand on lists. -/
def bornP (bt : List (Nat × Nat)) (k : Nat) : POp → Nat
  | .move x => bornX bt x
  | .slice _ x a b c => max (bornX bt x) (max (bornXO bt a) (max (bornXO bt b) (bornXO bt c)))
  | .idxSlice _ x i => max (bornX bt x) (bornX bt i)
  | .idxArr _ _ x i => max (bornX bt x) (bornX bt i)
  | .fieldAddr _ x => bornX bt x
  | .nilCheck x => bornX bt x
  | .bin _ x y => max (bornX bt x) (bornX bt y)
  | .un _ x => bornX bt x
  | .cvInt _ x => bornX bt x
  | .field _ _ _ x => bornX bt x
  | .index _ _ _ x i => max (bornX bt x) (bornX bt i)
  | .extract x _ => bornX bt x
  | .len _ x => bornX bt x
  | _ => k

def bornPut (n : Nat) (d : Option Nat) (k : Nat) (bt : List (Nat × Nat)) : List (Nat × Nat) :=
  match d with
  | some d => match Nat.blt d n with
    | true => (d, k) :: bt
    | false => bt
  | none => bt

def isList : AV → Bool
  | .list .. | .elem _ => true
  | _ => false

mutual
/-- Nothing in it is unknown. -/
def known : AV → Bool
  | .undef => false
  | .func _ cs => knownL cs
  | .agg cs => knownL cs
  | .tuple cs => knownL cs
  | _ => true
def knownL : List AV → Bool
  | [] => true
  | v :: r => known v && knownL r
end

/-- A load out of a list. -/
def ofList (l : Fast) : LOp → Bool
  | .load _ _ (.t t) => isList (look l t)
  | .bytesStr (.t t) => isList (look l t)
  | _ => false

/-- When what a load reads through was known. -/
def bornL (bt : List (Nat × Nat)) : LOp → Nat
  | .load _ _ x => bornX bt x
  | .bytesStr x => bornX bt x
  | _ => 0

/-- No block of the region is frozen. -/
def thawed (H : Heap) (base : Nat) : Nat → Bool
  | 0 => true
  | k + 1 => (match H.get (base + k) with
    | some (.cells _ true _) => false
    | _ => true) && thawed H base k

/-- Is a load the same wherever it may be done? -/
def loadOk (base nk : Nat) (l : Fast) (bt : List (Nat × Nat)) (lo : Nat) (o : LOp) (v : AV) (hs : List Heap) : Bool :=
  if ofList l o then decide (bornL bt o ≤ lo) && known v
  else hs.all fun X => match vL (o.sub (look l)) (X.hide base nk) with
    | some u => AV.same u v
    | none => false

def vdops (C : VCalls) (fr : Fr) (n base nk : Nat) : List DOper → Fast → Heap → List Heap → List (Nat × Nat) → Option (Fast × Heap)
  | [], l, H, _, _ => some (l, H)
  | d :: r, l, H, hist, bt => match bwanted d.o.guard l with
    | some true => match d.o.op with
      | .p o => match vP (o.sub (look l)) with
        | some v => vdops C fr n base nk r (bput n d.o.dst v l) H hist (bornPut n d.o.dst (bornP bt hist.length o) bt)
        | none => none
      | .l o => match vL (o.sub (look l)) (H.hide base nk) with
        | some v => if (hist.isEmpty || thawed H base nk || (ofList l o && bornL bt o == 0 && known v)) && ((hist.drop d.lo).isEmpty || loadOk base nk l bt d.lo o v (hist.drop d.lo))
          then vdops C fr n base nk r (bput n d.o.dst v l) H hist (bornPut n d.o.dst hist.length bt) else none
        | none => none
      | .k o => match vK (o.sub (look l)) with
        | some p => if d.ix < nk ∧ (hist.isEmpty || thawed H (base + d.ix) 1) = true then vdops C fr n base nk r (bput n d.o.dst (p.2.val (base + d.ix)) l) (H.put (base + d.ix) (some p.1)) hist (bornPut n d.o.dst hist.length bt) else none
        | none => none
      | .n o => match vN C fr (o.sub (look l)) H with
        | some p => vdops C fr n base nk r (bput n d.o.dst p.1 l) p.2 (hist ++ [H]) (bornPut n d.o.dst (hist.length + 1) bt)
        | none => none
    | some false => match d.o.op with
      | .n _ => vdops C fr n base nk r (bput n d.o.dst (.tuple []) l) H (hist ++ [H]) (bornPut n d.o.dst (hist.length + 1) bt)
      | _ => vdops C fr n base nk r (bput n d.o.dst (.tuple []) l) H hist (bornPut n d.o.dst hist.length bt)
    | none => none

/-! ### Code -/

inductive VCode where
  | skip
  | reg (ops : List AOper)
  | dreg (nk : Nat) (ops : List DOper)
  | seq (a b : VCode)
  | cond (c : AX) (a b : VCode)
  | block (id : Nat) (c : VCode)
  | loop (g : Bool) (zs keep out : List Nat) (c : VCode)
  | exit (id : Nat)
  | ret
  | fail

def VCode.erase : VCode → ACode
  | .skip => .skip
  | .reg ops => .reg ops
  | .dreg nk ops => .dreg nk ops
  | .seq a b => .seq a.erase b.erase
  | .cond c a b => .cond c a.erase b.erase
  | .block id c => .block id c.erase
  | .loop _ _ keep _ c => .loop keep c.erase
  | .exit id => .exit id
  | .ret => .ret
  | .fail => .fail

/-- 'lists': its slices are frozen when it is called. 'bare': it writes to nothing older. 'frozen': at its end all that is told, and what it wrote to, is frozen. -/
structure VFunc where
  nargs : Nat
  ntmps : Nat
  code : VCode
  results : List ARes
  bare : Bool
  frozen : Bool
  sum : Option (List AV → Heap → Option (AV × Heap)) := none
  lists : Bool := true
  rz : List Nat := []

/-- 'slices.Clone': one's own, of nothing, too. -/
def cloneSem (sz bytes : Nat) : List AV → Heap → Option (AV × Heap) := fun vs H =>
  match vs with
  | [v] => match v with
    | .str _ => none
    | v => if vElemSize v sz then (vElems v H).bind fun p =>
      if fitsB bytes p.1 then some (.acc H.next 0 sz p.1 true, H.push (.cells p.2 false true))
      else none
      else none
  | _ => none

/-- 'slices.Clip'. -/
def clipSem (sz : Nat) : List AV → Heap → Option (AV × Heap) := fun vs H =>
  match vs with
  | [.slice none _ 0 0 true] => some (.slice none sz 0 0 true, H)
  | [.list sz' n cs _] => if sz' = sz then some (.list sz n cs true, H) else none
  | [.acc b o sz' n w] => if sz' = sz then some (.acc b o sz n w, H) else none
  | _ => none

def VFunc.erase (f : VFunc) : AFunc := { nargs := f.nargs, ntmps := f.ntmps, code := f.code.erase, results := f.results }

def zipKeep : List Nat → List AV → Fast
  | t :: r, v :: s => (t, v) :: zipKeep r s
  | _, _ => []

/-- What is kept, with nothing else there, where 'g' says so. -/
def vkeep (g : Bool) (zs : List Nat) (fr : Fr) (l : Fast) (keep : List Nat) (H : Heap) : Fast × Heap :=
  if g then
    let q := solL zs (keep.map (look l)) H
    let r := gc fr q.1 q.2
    (zipKeep keep r.1, r.2)
  else (bkeep l keep, H)

def vloop (body : Fast → Heap → BOut) (g : Bool) (zs : List Nat) (fr : Fr) (keep out : List Nat) : Nat → Fast → Heap → BOut
  | 0, _, _ => none
  | k + 1, l, H => match body (vkeep g zs fr l keep H).1 (vkeep g zs fr l keep H).2 with
    | some (.normal, l', H') => vloop body g zs fr keep out k l' H'
    | some (x, l', H') => some (x, (vkeep g (zs.drop keep.length) fr l' out H').1, (vkeep g (zs.drop keep.length) fr l' out H').2)
    | none => none

def vexec (C : VCalls) (K : Nat) (fr : Fr) (n : Nat) : VCode → Fast → Heap → BOut
  | .skip, l, H => some (.normal, l, H)
  | .reg ops, l, H => (vops C fr n ops l H).map fun p => (.normal, p)
  | .dreg nk ops, l, H => (vdops C fr n H.next nk ops l { H with next := H.next + nk } [] []).map fun p => (.normal, p)
  | .seq a b, l, H => match vexec C K fr n a l H with
    | some (.normal, l', H') => vexec C K fr n b l' H'
    | r => r
  | .cond c a b, l, H => match (c.sub (look l)).ev [] with
    | .bool true => vexec C K fr n a l H
    | .bool false => vexec C K fr n b l H
    | _ => none
  | .block id c, l, H => match vexec C K fr n c l H with
    | some (.exit i, l', H') => if i = id then some (.normal, l', H') else some (.exit i, l', H')
    | r => r
  | .loop g zs keep out c, l, H => vloop (vexec C K fr n c) g zs fr keep out K l H
  | .exit id, l, H => some (.exit id, l, H)
  | .ret, l, H => some (.ret, l, H)
  | .fail, _, _ => none

def vRes (r : ARes) (l : Fast) (H : Heap) : Option AV :=
  match r with
  | .tmp t => match look l t with
    | .undef => none
    | v => some v
  | .cell t agg n => vL (.load agg n (.c (look l t))) H

def vResL : List ARes → Fast → Heap → Option (List AV)
  | [], _, _ => some []
  | r :: rs, l, H => match vRes r l H, vResL rs l H with
    | some v, some vs => some (v :: vs)
    | _, _ => none

def vResults (rs : List ARes) (l : Fast) (H : Heap) : Option AV :=
  (vResL rs l H).map fun vs => match vs with
    | [v] => v
    | vs => .tuple vs

/-- A call's end. -/
def vexit (frozen : Bool) (zs : List Nat) (fr : Fr) (v : AV) (H : Heap) : Option (AV × Heap) :=
  let q := solV zs v H
  if frozen then
    match frz q.2 5 false q.1, frzTidy q.2 fr.mark fr.tidy (q.2.cut fr.mark) with
    | some p, some q => if (idsOf p.1).all (fun i => decide (i < fr.mark)) then some (p.1, q.1.ice (p.2 ++ q.2)) else none
    | _, _ => none
  else
    let r := gc fr [q.1] q.2
    some (r.1.headD .undef, r.2)

def vbody (C : VCalls) (K : Nat) (f : VFunc) (args : List AV) (H : Heap) (fr : Fr) : Option (AV × Heap) :=
  if args.length = f.nargs ∧ f.nargs ≤ f.ntmps then
    match vexec C K fr f.ntmps f.code (start 0 (args ++ List.replicate (f.ntmps - f.nargs) (.tuple []))) H with
    | some (.normal, l, H') => match vResults f.results l H' with
      | some v => vexit f.frozen f.rz fr v H'
      | none => none
    | some (.ret, l, H') => match vResults f.results l H' with
      | some v => vexit f.frozen f.rz fr v H'
      | none => none
    | _ => none
  else none

/-- A call of a function's body. -/
def vcallB (C : VCalls) (T : FuncId → Option VFunc) (K : Nat) : VCalls := fun fr f args H => match T f with
  | some vf =>
    let tidy := if vf.bare then [] else reach H (idsOfL args)
    if tidy.all (fun b => decide (fr.mark ≤ b) || fr.tidy.contains b) then vbody C K vf args H { mark := H.next, tidy := tidy } else none
  | none => none

/-- What is handed in, frozen. -/
def vfrz (g : List AV → Heap → Option (AV × Heap)) (H : Heap) (x : Option (List AV × List Nat)) : Option (AV × Heap) := match x with
  | some p => g p.1 (H.ice p.2)
  | none => none

/-- 'kn': the law's example, which is known to hold. -/
def vcall (kn : FuncId) (T : FuncId → Option VFunc) (K : Nat) : Nat → VCalls
  | 0, _, _, _, _ => none
  | d + 1, fr, f, args, H =>
    if f = kn then (match args with | [] => some (.bool true, H) | _ => none)
    else match T f with
      | some vf => (match vf.sum with
      | some g => g args H
      | none =>
        if vf.lists then vfrz (vcallB (vcall kn T K d) T K fr f) H (frzL (frz H 5 false) args) else vcallB (vcall kn T K d) T K fr f args H)
      | none => none

end
end Go.Proofs.Ytachollgbplikaa
