/- The machine, part 3. -/
import Derived.Test.YtlcjmchhnbdepaaJ2
section
/- The abstract machine, twenty-fourth part: words for running code symbolically by simp. -/
set_option linter.unusedVariables false
set_option linter.unusedSimpArgs false
namespace Go.Proofs.Ytlcjmchhnbdepaa

theorem look_cons (u t : Nat) (v : AV) (r : Fast) : look ((u, v) :: r) t = if u = t then v else look r t := by
  simp only [look]
  cases hb : Nat.beq u t with
  | true => rw [if_pos (Nat.eq_of_beq_eq_true hb)]
  | false => rw [if_neg (fun h => by subst h; rw [Nat.beq_refl] at hb; cases hb)]

theorem bput_some {n d : Nat} (v : AV) (l : Fast) (h : d < n) : bput n (some d) v l = (d, v) :: l := by
  have : Nat.blt d n = true := by simpa [Nat.blt_eq] using h
  simp [bput, this]

theorem bput_none (n : Nat) (v : AV) (l : Fast) : bput n none v l = l := rfl

theorem bops_nil (C : ACalls) (n : Nat) (l : Fast) (M : Heap) : bops C n [] l M = some (l, M) := rfl

/-- An operation that is always wanted. -/
theorem bops_cons (C : ACalls) (n : Nat) (dst : Option Nat) (op : AOp) (r : List AOper) (l : Fast) (M : Heap) :
    bops C n ({ dst := dst, op := op, guard := none } :: r) l M = match aop C (op.sub (look l)) [] M with
      | some p => bops C n r (bput n dst p.1 l) p.2
      | none => none := by
  simp only [bops, bwanted]
  split <;> simp [force_eq, *]

theorem bops_guard (C : ACalls) (n : Nat) (dst : Option Nat) (op : AOp) (t : Nat) (want : Bool) (r : List AOper) (l : Fast) (M : Heap) :
    bops C n ({ dst := dst, op := op, guard := some (t, want) } :: r) l M = match bwanted (some (t, want)) l with
      | some true => (match aop C (op.sub (look l)) [] M with
        | some p => bops C n r (bput n dst p.1 l) p.2
        | none => none)
      | some false => bops C n r (bput n dst (.tuple []) l) M
      | none => none := by
  simp only [bops]
  split
  · rename_i h
    rw [h]
    simp only
    split <;> simp [force_eq, *]
  · rename_i h
    rw [h]
  · rename_i h
    rw [h]

theorem bloop_succ (body : Fast → Heap → BOut) (keep : List Nat) (k : Nat) (l : Fast) (M : Heap) : bloop body keep (k + 1) l M = match body (bkeep l keep) M with
    | some (.normal, l', M') => bloop body keep k l' M'
    | r => r := rfl

theorem bkeep_nil (l : Fast) : bkeep l [] = [] := rfl
theorem bkeep_cons (l : Fast) (t : Nat) (r : List Nat) : bkeep l (t :: r) = (t, look l t) :: bkeep l r := rfl

theorem bexec_reg (C : ACalls) (K n : Nat) (ops : List AOper) (l : Fast) (M : Heap) : bexec C K n (.reg ops) l M = (bops C n ops l M).map fun p => (.normal, p) := rfl
theorem bexec_seq (C : ACalls) (K n : Nat) (a b : ACode) (l : Fast) (M : Heap) : bexec C K n (.seq a b) l M = match bexec C K n a l M with
    | some (.normal, l', M') => bexec C K n b l' M'
    | r => r := rfl
theorem bexec_block (C : ACalls) (K n id : Nat) (c : ACode) (l : Fast) (M : Heap) : bexec C K n (.block id c) l M = match bexec C K n c l M with
    | some (.exit i, l', M') => if i = id then some (.normal, l', M') else some (.exit i, l', M')
    | r => r := rfl
/-- A branch on a Bool that is known as a term. -/
theorem bexec_cond (C : ACalls) (K n : Nat) (c : AX) (a b : ACode) (l : Fast) (M : Heap) (v : Bool) (h : (c.sub (look l)).ev [] = .bool v) :
    bexec C K n (.cond c a b) l M = if v then bexec C K n a l M else bexec C K n b l M := by
  simp only [bexec, h]
  cases v <;> rfl

/-! ### Whole numbers -/

theorem aI_add (k : IntKind) (x y : Int) : aInts .add k x y = some (.int k (k.wrap (x + y))) := id rfl
theorem aI_sub (k : IntKind) (x y : Int) : aInts .sub k x y = some (.int k (k.wrap (x - y))) := id rfl
theorem aI_mul (k : IntKind) (x y : Int) : aInts .mul k x y = some (.int k (k.wrap (x * y))) := id rfl
theorem aI_eql (k : IntKind) (x y : Int) : aInts .eql k x y = some (.bool (x == y)) := id rfl
theorem aI_neq (k : IntKind) (x y : Int) : aInts .neq k x y = some (.bool (x != y)) := id rfl
theorem aI_lss (k : IntKind) (x y : Int) : aInts .lss k x y = some (.bool (x < y)) := id rfl
theorem aI_leq (k : IntKind) (x y : Int) : aInts .leq k x y = some (.bool (x ≤ y)) := id rfl
theorem aI_gtr (k : IntKind) (x y : Int) : aInts .gtr k x y = some (.bool (x > y)) := id rfl
theorem aI_geq (k : IntKind) (x y : Int) : aInts .geq k x y = some (.bool (x ≥ y)) := id rfl
def ixor (k : IntKind) (x y : Int) : Int := k.wrap (BitVec.ofInt k.bits x ^^^ BitVec.ofInt k.bits y).toNat
def iand (k : IntKind) (x y : Int) : Int := k.wrap (BitVec.ofInt k.bits x &&& BitVec.ofInt k.bits y).toNat
def ior (k : IntKind) (x y : Int) : Int := k.wrap (BitVec.ofInt k.bits x ||| BitVec.ofInt k.bits y).toNat
theorem aI_xor (k : IntKind) (x y : Int) : aInts .xor k x y = some (.int k (ixor k x y)) := id rfl
theorem aI_and (k : IntKind) (x y : Int) : aInts .and k x y = some (.int k (iand k x y)) := id rfl
theorem aI_or (k : IntKind) (x y : Int) : aInts .or k x y = some (.int k (ior k x y)) := id rfl
theorem aI_quo (k : IntKind) (x y : Int) (h : y ≠ 0) : aInts .quo k x y = some (.int k (k.wrap (x.tdiv y))) := by simp [aInts, h]
theorem aI_rem (k : IntKind) (x y : Int) (h : y ≠ 0) : aInts .rem k x y = some (.int k (x.tmod y)) := by simp [aInts, h]

theorem wrap_i64 {n : Int} (h1 : -9223372036854775808 ≤ n) (h2 : n ≤ 9223372036854775807) : IntKind.i64.wrap n = n := by
  simp [IntKind.wrap, IntKind.signed, IntKind.bits]
  split <;> omega

theorem wrap_u64 {n : Int} (h1 : 0 ≤ n) (h2 : n ≤ 18446744073709551615) : IntKind.u64.wrap n = n := by
  simp [IntKind.wrap, IntKind.signed, IntKind.bits]
  omega

/-! ### Heaps that grow -/

structure Ext (M M' : Heap) : Prop where
  sub : M.Sub M'
  next : M.next ≤ M'.next
  wf : M'.Wf

theorem Ext.refl {M : Heap} (h : M.Wf) : Ext M M := ⟨.refl _, Nat.le_refl _, h⟩
theorem Ext.trans {A B C : Heap} (h : Ext A B) (k : Ext B C) : Ext A C := ⟨h.sub.trans k.sub, Nat.le_trans h.next k.next, k.wf⟩
theorem Ext.push {M : Heap} (h : M.Wf) (x : Blk) : Ext M (M.push x) :=
  ⟨fun b y hy => by
    have : b ≠ M.next := fun e => by rw [e, h _ (Nat.le_refl _)] at hy; cases hy
    simp [Heap.push, this, hy], Nat.le_succ _, fun b hb => by
    simp only [Heap.push] at hb ⊢
    rw [if_neg (by omega)]
    exact h b (by omega)⟩
theorem push_new (M : Heap) (x : Blk) : (M.push x).get M.next = some x := by simp [Heap.push]
theorem push_next (M : Heap) (x : Blk) : (M.push x).next = M.next + 1 := rfl

/-- A slice of texts. -/
def SlStr (M : Heap) (a : AV) (l : List (List UInt8)) : Prop :=
  ∃ p sz cap ex, a = .slice p sz l.length cap ex ∧ (l ≠ [] → sz = 1 ∧ ∃ b o c ro sl, p = some (b, o) ∧ M.get b = some (.cells c ro sl) ∧ ∀ j s, l[j]? = some s → c[o + j]? = some (.str s))

theorem SlStr.mono {M M' : Heap} (h : M.Sub M') {a : AV} {l : List (List UInt8)} (r : SlStr M a l) : SlStr M' a l := by
  obtain ⟨p, sz, cap, ex, h1, h2⟩ := r
  refine ⟨p, sz, cap, ex, h1, fun hl => ?_⟩
  obtain ⟨e1, b, o, c, ro, sl, e2, e3, e4⟩ := h2 hl
  exact ⟨e1, b, o, c, ro, sl, e2, h _ _ e3, e4⟩

/-! ### A call that stands by itself -/

/-- A function without parameters, run upon nothing: what it tells, wherever it is called. -/
def alone (g : List AV → Heap → Option (AV × Heap)) : List AV → Heap → Option (AV × Heap) := fun args M =>
  match args, g [] Heap.empty with
  | [], some (.bool b, _) => some (.bool b, M)
  | _, _ => none

theorem alone_sound {P : Program} {f : FuncId} {g : List AV → Heap → Option (AV × Heap)} (hs : Sound P f g) : Sound P f (alone g) := by
  intro args M v M' h ι w vs r hv
  unfold alone at h
  split at h
  case h_2 => cases h
  rename_i b M0 hg
  simp only [Option.some.injEq, Prod.mk.injEq] at h
  obtain ⟨rfl, rfl⟩ := h
  have hvs : vs = #[] := by
    have := hv.length
    simp at this
    exact Array.eq_empty_of_size_eq_zero this.symm
  subst hvs
  refine (hs [] Heap.empty _ M0 hg (fun _ => none) w #[] (R.empty w) (by simp [VRL])).mono ?_
  rintro e w' ⟨ι', v', rfl, hv', ht⟩
  simp only [VR] at hv'
  subst hv'
  have bel := below_of_tr ht (fun b x h => by simp [Heap.empty] at h)
  have hr : R ι M w' := ⟨fun b x hx => by
    obtain ⟨l, o, h1, h2, h3⟩ := r.blk b x hx
    exact ⟨l, o, h1, by rw [bel.block _ (Array.getElem?_eq_some_iff.1 h2).1]; exact h2, h3⟩, r.apart, r.fresh⟩
  refine ⟨ι, _, rfl, by simp [VR], ⟨hr, fun _ _ => rfl, Nat.le_refl _, fun _ _ h => h, fun _ _ h _ => h, fun b x l h1 h2 h3 _ => ⟨b, x, l, h1, h2, h3, rfl⟩, fun j hj _ => bel.block j hj, bel.size, bel.os, bel.tape, bel.output⟩⟩

theorem callsOk_le {P : Program} {C C' : ACalls} (h : C.Le C') (k : CallsOk P C') : CallsOk P C := fun f => by
  rcases k f with ⟨k1, k2⟩ | k
  · exact .inl ⟨fun args M r hr => k1 args M r (h f args M r hr), fun args M v M' hr => k2 args M v M' (h f args M _ hr)⟩
  · exact .inr fun args M v M' hr => k args M v M' (h f args M _ hr)

/-- A function that is run by its body is right. -/
theorem law_sound {P : Program} {G : Sums} {T : FuncId → Option AFunc} (hG : ∀ f g, G f = some g → (Bodied P f ∧ Sound P f g) ∨ ExtOk P f g) (hT : ∀ f af, T f = some af → ∃ h, cFunc P f h = some af) (K d : Nat) {f : FuncId} (hf : G f = none) : Sound P f (bcall G T K d f) := by
  intro args M v M' h
  have h1 := bcall_ok d f args M _ h
  cases d with
  | zero => simp [acall] at h1
  | succ d =>
    simp only [acall, hf] at h1
    split at h1
    · rename_i af haf
      obtain ⟨hs, hc⟩ := hT f af haf
      exact body_sound (acall_sound hG hT K d) K hc args M v M' h1
    · cases h1


theorem are_cons {s : Sh} {ss : List Sh} {ds : List D} (h : D.are (s :: ss) ds) : ∃ d r, ds = d :: r ∧ D.is s d ∧ D.are ss r := by
  cases ds with
  | nil => simp [D.are] at h
  | cons d r => exact ⟨d, r, rfl, by simpa [D.are] using h⟩
theorem are_nil {ds : List D} (h : D.are [] ds) : ds = [] := by
  cases ds with
  | nil => rfl
  | cons d r => simp [D.are] at h
theorem args_cons {M : Heap} {av : List AV} {d : D} {r : List D} (h : Args M av (d :: r)) : ∃ a t, av = a :: t ∧ RdArg M a d ∧ Args M t r := by
  cases av with
  | nil => simp [Args] at h
  | cons a t => exact ⟨a, t, rfl, by simpa [Args] using h⟩
theorem args_nil {M : Heap} {av : List AV} (h : Args M av []) : av = [] := by
  cases av with
  | nil => rfl
  | cons a t => simp [Args] at h
theorem arg_str {M : Heap} {a : AV} {s : List UInt8} (h : RdArg M a (.str s)) : a = .str s := by simpa [RdArg, Rd] using h
theorem arg_int {M : Heap} {a : AV} {k : IntKind} {n : Int} (h : RdArg M a (.int k n)) : a = .int k n := by simpa [RdArg, Rd] using h
theorem arg_bool {M : Heap} {a : AV} {b : Bool} (h : RdArg M a (.bool b)) : a = .bool b := by simpa [RdArg, Rd] using h

end Go.Proofs.Ytlcjmchhnbdepaa
end

section
/- The machine W: what a function does to closed memory of its own, as a proposition that the kernel unfolds. Definitions. -/
set_option linter.all false
namespace Go.Proofs.Ytlcjmchhnbdepaa

/-! ### Memory of a frame: a list of blocks -/

abbrev WH := List (Option Blk)

def wget : WH → Nat → Option Blk
  | [], _ => none
  | x :: _, 0 => x
  | _ :: r, i + 1 => wget r i

def wput : WH → Nat → Option Blk → WH
  | [], _, _ => []
  | _ :: r, 0, y => y :: r
  | x :: r, i + 1, y => x :: wput r i y

/-! ### What a value names -/

mutual
def idsOf : AV → List Nat
  | .ptr (some p) => [p.1]
  | .map (some r) => [r]
  | .acc b _ _ _ _ => [b]
  | .func _ cs => idsOfL cs
  | .agg cs => idsOfL cs
  | .tuple cs => idsOfL cs
  | _ => []
def idsOfL : List AV → List Nat
  | [] => []
  | v :: r => idsOf v ++ idsOfL r
end

/-- A value that bears nothing that is named. -/
def AV.flat : AV → Bool
  | .ptr (some _) | .slice (some _) _ _ _ _ | .map (some _) | .func _ (_ :: _) | .agg _ | .tuple _ | .acc .. => false
  | _ => true

def ixOf : List Nat → Nat → Option Nat
  | [], _ => none
  | a :: r, b => match Nat.beq a b with
    | true => some 0
    | false => match ixOf r b with
      | some k => some (k + 1)
      | none => none

mutual
/-- New names. -/
def rn (f : Nat → Option Nat) : AV → AV
  | .ptr (some q) => match f q.1 with
    | some b => .ptr (some (b, q.2))
    | none => .undef
  | .slice (some _) _ _ _ _ => .undef
  | .map (some r) => match f r with
    | some b => .map (some b)
    | none => .undef
  | .acc b o sz n w => match f b with
    | some b' => .acc b' o sz n w
    | none => .undef
  | .func g cs => .func g (rnL f cs)
  | .agg cs => .agg (rnL f cs)
  | .tuple cs => .tuple (rnL f cs)
  | v => v
def rnL (f : Nat → Option Nat) : List AV → List AV
  | [] => []
  | v :: r => rn f v :: rnL f r
end

/-- 'sl': the cells of a slice: in them nothing is named. -/
def rnB (f : Nat → Option Nat) : Blk → Blk
  | .cells c ro sl => match sl with
    | true => .cells c ro true
    | false => .cells (rnL f c) ro false
  | .map es => .map es

def idsB : Option Blk → List Nat
  | some (.cells c _ false) => idsOfL c
  | _ => []

/-! ### What is reached -/

def hasN : List Nat → Nat → Bool
  | [], _ => false
  | a :: r, b => match Nat.beq a b with
    | true => true
    | false => hasN r b

def ddup (H : WH) (np : Nat) (seen : List Nat) : List Nat → List Nat
  | [] => []
  | a :: r => match hasN seen a with
    | true => ddup H np seen r
    | false => match Nat.blt a np with
      | true => a :: ddup H np (a :: seen) r
      | false => match wget H a with
        | some _ => a :: ddup H np (a :: seen) r
        | none => ddup H np (a :: seen) r

def grow1 (H : WH) : List Nat → List Nat
  | [] => []
  | b :: r => idsB (wget H b) ++ grow1 H r

def clo1 (H : WH) (np : Nat) (l : List Nat) : List Nat := ddup H np [] (l ++ grow1 H l)
def clo (H : WH) (np : Nat) (roots : List Nat) : List Nat := clo1 H np (clo1 H np (clo1 H np (ddup H np [] (List.range np ++ roots))))

def rnO (f : Nat → Option Nat) : Option Blk → Option Blk
  | some x => some (rnB f x)
  | none => none

/-- The blocks of 'p', as memory of its own. -/
def closeH (H : WH) (p : List Nat) : List Nat → WH
  | [] => []
  | b :: r => rnO (ixOf p) (wget H b) :: closeH H p r

/-- Names on the way back. -/
def back (p : List Nat) (n0 k : Nat) : Option Nat := match p[k]? with
  | some b => some b
  | none => some (n0 + (k - p.length))

def putAll (f : Nat → Option Nat) : List Nat → WH → WH → WH
  | b :: p, x :: out, H => putAll f p out (wput H b (rnO f x))
  | _, _, H => H

def openH (H : WH) (p : List Nat) (out : WH) : WH :=
  putAll (back p H.length) p out H ++ (out.drop p.length).map (rnO (back p H.length))

/-- Memory in its form. -/
def forceL (k : List AV → Prop) : List AV → List AV → Prop
  | [], acc => k acc.reverse
  | v :: r, acc => forceL k r (v :: acc)

/-! ### Kinds of emptiness -/

mutual
/-- 'nil', with the element's size that is meant. -/
def retag : AV → AV → AV
  | .slice none s 0 0 true, t => match t with
    | .slice none z _ _ _ => .slice none z 0 0 true
    | _ => .slice none s 0 0 true
  | .agg cs, t => match t with
    | .agg ts => .agg (retagL cs ts)
    | _ => .agg cs
  | .tuple cs, t => match t with
    | .tuple ts => .tuple (retagL cs ts)
    | _ => .tuple cs
  | v, _ => v
def retagL : List AV → List AV → List AV
  | c :: cs, ts => match ts with
    | t :: ts => retag c t :: retagL cs ts
    | [] => c :: cs
  | [], _ => []
end

/-! ### Freezing, and what is one's own -/

def frzL (g : AV → Option (AV × List Nat)) : List AV → Option (List AV × List Nat)
  | [] => some ([], [])
  | v :: r => match g v, frzL g r with
    | some p, some q => some (p.1 :: q.1, p.2 ++ q.2)
    | _, _ => none

/-- The part of a block that a slice of one's own is. -/
def accC (w : Bool) (c : List AV) (o m : Nat) : List AV := match w with
  | true => c
  | false => (c.drop o).take m

/-- A value as it stands: its slices are lists; and the blocks that nobody may write to any more. -/
def frz (H : WH) : Nat → Bool → AV → Option (AV × List Nat)
  | 0, _, _ => none
  | k + 1, nested, v => match v with
    | .acc b o sz n w => match wget H b with
      | some (.cells c _ sl) => match sl with
        | true => some (.list sz n (accC w c o (n * sz)) false, [b])
        | false => match w with
          | true => match frzL (frz H k true) c with
            | some p => some (.list sz n p.1 false, b :: p.2)
            | none => none
          | false => none
      | _ => none
    | .slice none z 0 0 true => some (.list z 0 [] false, [])
    | .slice _ _ _ _ _ => none
    | .list sz n cs _ => some (.list sz n cs false, [])
    | .elem _ => none
    | .ptr (some q) => match nested with
      | true => none
      | false => some (.ptr (some q), [])
    | .map (some r) => match nested with
      | true => none
      | false => some (.map (some r), [])
    | .func f cs => match frzL (frz H k nested) cs with
      | some p => some (.func f p.1, p.2)
      | none => none
    | .agg cs => match frzL (frz H k nested) cs with
      | some p => some (.agg p.1, p.2)
      | none => none
    | .tuple cs => match frzL (frz H k nested) cs with
      | some p => some (.tuple p.1, p.2)
      | none => none
    | v => some (v, [])

def iceB : Option Blk → Option Blk
  | some (.cells c _ sl) => some (.cells c true sl)
  | _ => none

def wice (H : WH) : List Nat → WH
  | [] => H
  | b :: r => wice (wput H b (iceB (wget H b))) r

def trimC (w : Bool) (c : List AV) (m : Nat) : List AV := match w with
  | true => c
  | false => c.take m

mutual
/-- As one's own: 'nil', too; of what is a part only the part. -/
def nrmA : AV → WH → AV × WH
  | .slice none z 0 0 true, H => (.acc H.length 0 z 0 true, H ++ [some (.cells [] false true)])
  | .acc b 0 sz n w, H => match wget H b with
    | some (.cells c false true) => (.acc H.length 0 sz n true, wput H b none ++ [some (.cells (trimC w c (n * sz)) false true)])
    | _ => (.acc b 0 sz n w, H)
  | .agg cs, H => match nrmAL cs H with
    | (a, H) => (.agg a, H)
  | .tuple cs, H => match nrmAL cs H with
    | (a, H) => (.tuple a, H)
  | v, H => (v, H)
def nrmAL : List AV → WH → List AV × WH
  | [], H => ([], H)
  | v :: r, H => match nrmA v H with
    | (a, H) => match nrmAL r H with
      | (l, H) => (a :: l, H)
end

/-- 'some false': frozen; 'some true': one's own. -/
def nrm (m : Option Bool) (v : AV) (H : WH) : AV × WH := match m with
  | none => (v, H)
  | some true => nrmA v H
  | some false => match frz H 5 false v with
    | some p => (p.1, wice H p.2)
    | none => (v, H)

def nrmL : List (Option Bool) → List AV → WH → List AV × WH
  | _, [], H => ([], H)
  | ms, v :: r, H => match nrm (ms.headD (some false)) v H with
    | (a, H) => match nrmL ms.tail r H with
      | (l, H) => (a :: l, H)

def nrmC (m : Option Bool) : List AV → WH → List AV × WH
  | [], H => ([], H)
  | v :: r, H => match nrm m v H with
    | (a, H) => match nrmC m r H with
      | (l, H) => (a :: l, H)

/-- The cells of one block that is no slice's. -/
def nrmB (m : Option Bool) (b : Nat) (H : WH) : WH := match m with
  | none => H
  | some m => match wget H b with
    | some (.cells c _ false) => match nrmC (some m) c H with
      | (c', H') => match wget H' b with
        | some (.cells _ ro false) => wput H' b (some (.cells c' ro false))
        | _ => H'
    | _ => H

def nrmBs : List (Option Bool) → Option Bool → List Nat → WH → WH
  | _, _, [], H => H
  | ms, m, b :: p, H => nrmBs ms.tail m p (nrmB (ms.headD m) b H)

/-! ### Operations -/

def vSlice (sz : Nat) (sz' len : Nat) (cs : List AV) (lo hi mx : Option AX) : Option AV :=
  if sz' = sz then
    match mx with
    | none => (aBoundO [] hi len len).bind fun h => (aBoundO [] lo 0 h).bind fun l => some (.list sz (h - l) ((cs.drop (l * sz)).take ((h - l) * sz)) false)
    | some _ => (aBoundO [] mx len len).bind fun m => match hi with
      | none => none
      | some _ => (aBoundO [] hi len m).bind fun h => (aBoundO [] lo 0 h).bind fun l => some (.list sz (h - l) ((cs.drop (l * sz)).take ((h - l) * sz)) false)
  else none

def vSliceA (sz b off sz' n : Nat) (w : Bool) (lo hi mx : Option AX) : Option AV :=
  match lo, hi, mx with
  | none, none, none => if sz' = sz then some (.acc b off sz n w) else none
  | _, _, none => if sz' = sz then (aBoundO [] hi n n).bind fun h => (aBoundO [] lo 0 h).bind fun l => some (.acc b (off + l * sz) sz (h - l) false) else none
  | _, some _, some _ => if sz' = sz then (aBoundO [] mx n n).bind fun m => (aBoundO [] hi n m).bind fun h => (aBoundO [] lo 0 h).bind fun l => some (.acc b (off + l * sz) sz (h - l) false) else none
  | _, _, _ => none

def cTake : Nat → List AV → Option (List AV)
  | 0, _ => some []
  | n + 1, c :: cs => match cTake n cs with
    | some l => some (c :: l)
    | none => none
  | _ + 1, [] => none

def cAt : List AV → Nat → Option AV
  | [], _ => none
  | v :: _, 0 => some v
  | _ :: r, i + 1 => cAt r i

def cPart (agg : Bool) (off n : Nat) (cs : List AV) : Option AV := match agg with
  | true => match cTake n (cs.drop off) with
    | some l => some (.agg l)
    | none => none
  | false => cAt cs off

def wP (o : POp) : Option AV :=
  match o with
  | .slice sz x lo hi mx => match x.ev [] with
    | .list sz' len cs _ => vSlice sz sz' len cs lo hi mx
    | .acc b off sz' n w => vSliceA sz b off sz' n w lo hi mx
    | _ => none
  | .idxSlice sz x i => match x.ev [] with
    | .list sz' len cs _ => match i.ev [] with
      | .int _ j => if 0 ≤ j ∧ j < (len : Int) ∧ sz' = sz then some (.elem (cs.drop (j.toNat * sz))) else none
      | _ => none
    | .acc b off sz' n _ => match i.ev [] with
      | .int _ j => if 0 ≤ j ∧ j < (n : Int) ∧ sz' = sz then some (.ptr (some (b, off + j.toNat * sz))) else none
      | _ => none
    | _ => none
  | .idxArr n sz x i => match x.ev [] with
    | .elem cs => match i.ev [] with
      | .int _ j => if 0 ≤ j ∧ j < (n : Int) then some (.elem (cs.drop (j.toNat * sz))) else none
      | _ => none
    | _ => aP o []
  | .fieldAddr off x => match x.ev [] with
    | .elem cs => some (.elem (cs.drop off))
    | _ => aP o []
  | .nilCheck x => match x.ev [] with
    | .elem cs => some (.elem cs)
    | _ => aP o []
  | .field agg off n x => match x.ev [] with
    | .agg cs => cPart agg off n cs
    | _ => none
  | .len false x => match x.ev [] with
    | .list _ len _ _ => some (.int .i64 len)
    | .acc _ _ _ n _ => some (.int .i64 n)
    | .slice none _ 0 0 true => some (.int .i64 0)
    | _ => none
  | .cap _ => none
  | .eqN neg x y => match x.ev [], y.ev [] with
    | .list _ (_ + 1) _ _, .slice none _ 0 0 true => some (.bool neg)
    | .slice none _ 0 0 true, .list _ (_ + 1) _ _ => some (.bool neg)
    | .slice none _ 0 0 true, .slice none _ 0 0 true => some (.bool (!neg))
    | _, _ => none
  | _ => aP o []

/-! ### Maps: their entries are plain -/

mutual
def sc : AV → Bool
  | .bool _ | .int .. | .str _ => true
  | .tuple cs => scL cs
  | .agg cs => scL cs
  | _ => false
def scL : List AV → Bool
  | [] => true
  | v :: r => match sc v with
    | true => scL r
    | false => false
end
def scE : List (AV × AV) → Bool
  | [] => true
  | p :: r => match sc p.1, sc p.2 with
    | true, true => scE r
    | _, _ => false
def mapUp (kd : Kd) (k v : AV) (es : List (AV × AV)) : Option (List (AV × AV)) := (aFind kd k es 0).map fun p => match p with
  | some q => es.set q.1 (k, v)
  | none => es ++ [(k, v)]
def mapDl (kd : Kd) (k : AV) (es : List (AV × AV)) : Option (List (AV × AV)) := (aFind kd k es 0).map fun p => match p with
  | some q => es.eraseIdx q.1
  | none => es
def mapAt (kd : Kd) (ok : Bool) (zero k : AV) (es : List (AV × AV)) : Option AV := (aFind kd k es 0).map fun r =>
  let p : AV × Bool := match r with
    | some (_, x) => (x, true)
    | none => (zero, false)
  if ok then .tuple [p.1, .bool p.2] else p.1

def wL (o : LOp) (H : WH) : Option AV :=
  match o with
  | .load agg n x => match agg && Nat.beq n 0 with
    | true => none
    | false => match x.ev [] with
      | .elem cs => cPart agg 0 n cs
      | .ptr (some (b, off)) => match wget H b with
        | some (.cells c _ _) => cPart agg off n c
        | _ => none
      | _ => none
  | .bytesStr x => match x.ev [] with
    | .list 1 _ cs _ => (toBytes cs).map .str
    | .acc b off 1 n w => match wget H b with
      | some (.cells c _ _) => (toBytes (accC w c off n)).map .str
      | _ => none
    | .slice none _ 0 0 true => some (.str [])
    | _ => none
  | .mapLen x => match x.ev [] with
    | .map (some r) => match wget H r with
      | some (.map es) => some (.int .i64 es.length)
      | _ => none
    | _ => none
  | .lookup kd ok zero x k => match x.ev [] with
    | .map (some r) => match wget H r, sc (k.ev []) with
      | some (.map es), true => mapAt kd ok zero (k.ev []) es
      | _, _ => none
    | _ => none

def fitsB (bytes k : Nat) : Bool := decide (k * bytes ≤ 70368744177664 ∧ k ≤ 70368744177664)

/-- The elements that a slice bears: as they stand. -/
def wElems (x : AV) (sz : Nat) (H : WH) : Option (Nat × List AV × List Nat) :=
  match x with
  | .list sz' n cs _ => match Nat.beq sz' sz with
    | true => some (n, cs, [])
    | false => none
  | .slice none _ 0 0 true => some (0, [], [])
  | .str s => match Nat.beq 1 sz with
    | true => some (s.length, s.map fun b => .int .u8 b.toNat, [])
    | false => none
  | .acc b o sz' n w => match Nat.beq sz' sz with
    | true => match wget H b with
      | some (.cells c _ sl) => match sl with
        | true => some (n, accC w c o (n * sz), [])
        | false => match w with
          | true => match frzL (frz H 5 true) c with
            | some p => some (n, p.1, p.2)
            | none => none
          | false => none
      | _ => none
    | false => none
  | _ => none

/-- What is written to: what stands there, and what is to be killed. -/
def wBase (s : AV) (sz : Nat) (H : WH) : Option (Nat × List AV × WH × List Nat) :=
  match s with
  | .slice none _ 0 0 true => some (0, [], H, [])
  | .acc b 0 sz' n w => match Nat.beq sz' sz with
    | true => match wget H b with
      | some (.cells c false true) => some (n, accC w c 0 (n * sz), wput H b none, [b])
      | some (.cells c false false) => match w with
        | true => match frzL (frz H 5 true) c with
          | some p => match hasN p.2 b with
            | false => some (n, p.1, wput (wice H p.2) b none, [b])
            | true => none
          | none => none
        | false => none
      | _ => none
    | false => none
  | _ => none

def wrC (c : List AV) (o : Nat) (cs : List AV) : Option (List AV) :=
  if o + cs.length ≤ c.length then some (c.take o ++ cs ++ c.drop (o + cs.length)) else none

/-! ### Traces: what the kernel cannot know by itself -/

def gd {β : Type} (b : Bool) (x : Option β) : Option β := match b with
  | true => x
  | false => none

/-- How a run ends: a function's end, a part's. -/
inductive Lf where
  | fin (m : Option Bool) (ts : List AV) (mc : Option Bool)
  | en (keep : List Nat) (ms bs : List (Option Bool)) (ts : List AV)

/-- The tree of a run, over what it comes to. -/
inductive Tc {R : Type} : Option R → Type 1 where
  | leaf (x : Lf) (v : R) : Tc (some v)
  | leafq (x : Lf) (v : R) (Q : R → Prop) (h : Q v) : Tc (some v)
  | fail : Tc none
  | bd {β : Type} {e : Option β} {f : β → Option R} (k : (x : β) → e = some x → Tc (f x)) : Tc (e.bind f)
  | gd {b : Bool} {f : Option R} (k : b = true → Tc f) : Tc (Proofs.Ytlcjmchhnbdepaa.gd b f)
  | br (t : Nat) {b : Bool} {f g : Option R} (x : b = true → Tc f) (y : b = false → Tc g) : Tc (cond b f g)
  | ite {b : Bool} {f g : Option R} (x : b = true → Tc f) (y : b = false → Tc g) : Tc (cond b f g)
  | ob {P : Prop} (h : P) {f : Option R} (r : Tc f) : Tc f
  | rv (t : Nat) (u : AV) {P : Prop} (h : P) {f : Option R} (r : Tc f) : Tc f
  | rb (b : Nat) (c : List AV) {P : Prop} (h : P) {f : Option R} (r : Tc f) : Tc f
  | v (d : Nat) (u : AV) {f : Option R} (r : Tc f) : Tc f
  | z (d : Nat) (t : List AV) {f : Option R} (r : Tc f) : Tc f
  | ap (d : Nat) (n : Nat) (cs : List AV) {f : Option R} (r : Tc f) : Tc f
  | st (cs : Option (List AV)) {f : Option R} (r : Tc f) : Tc f
  | call (ms : List (Option Bool)) (m : Option Bool) (ts : List AV) (v : AV) (out : WH) {f : Option R} (r : Tc f) : Tc f
  | lp (ms : List (Option Bool)) (bs : List (Option Bool)) (ts : List AV) (ex : Ex) (outs : List (Nat × AV)) (out : WH) {f : Option R} (r : Tc f) : Tc f
  | jn (keep : List Nat) (ms : List (Option Bool)) (bs : List (Option Bool)) (ts : List AV) (ex : Ex) (outs : List (Nat × AV)) (out : WH) {f : Option R} (r : Tc f) : Tc f
  | sk {f : Option R} (r : Tc f) : Tc f
  | cb (ms : List (Option Bool)) (ts : List AV) (v : AV) {f : Option R} (r : Tc f) : Tc f
  | kl (bs : List Nat) {f : Option R} (r : Tc f) : Tc f
  | mp (es : List (AV × AV)) {f : Option R} (r : Tc f) : Tc f
  | cl (ms : List (Option Bool)) (ls : List Bool) (ts : List AV) (v : AV) (out : WH) {f : Option R} (r : Tc f) : Tc f
  | er {f : Option R} (r : Tc f) : Tc f

structure TS : Type 1 where
  {R : Type}
  {f : Option R}
  tr : Tc f

/-- What a tree owes. -/
def claim {R : Type} (L : R → Prop) (r : R) : {f : Option R} → Tc f → Prop
  | _, .leaf _ v => L v
  | _, .leafq _ _ Q _ => Q r
  | _, .fail => False
  | _, .bd k => ∃ x, ∃ q, claim L r (k x q)
  | _, .gd k => ∃ q, claim L r (k q)
  | _, .br (b := b) _ x y => b = b ∧ ((∀ h, claim L r (x h)) ∧ (∀ h, claim L r (y h)))
  | _, .ite x y => (∀ h, claim L r (x h)) ∧ (∀ h, claim L r (y h))
  | _, .ob (P := P) _ k => P ∧ claim L r k
  | _, .rv _ _ (P := P) _ k => P ∧ claim L r k
  | _, .rb _ _ (P := P) _ k => P ∧ claim L r k
  | _, .v _ _ k => claim L r k
  | _, .z _ _ k => claim L r k
  | _, .ap _ _ _ k => claim L r k
  | _, .st _ k => claim L r k
  | _, .call _ _ _ _ _ k => claim L r k
  | _, .lp _ _ _ _ _ _ k => claim L r k
  | _, .jn _ _ _ _ _ _ _ k => claim L r k
  | _, .sk k => claim L r k
  | _, .cb _ _ _ k => claim L r k
  | _, .kl _ k => claim L r k
  | _, .mp _ k => claim L r k
  | _, .cl _ _ _ _ _ k => claim L r k
  | _, .er k => claim L r k

theorem claim_ok {R : Type} {L : R → Prop} {r : R} (hL : L r) : ∀ {f : Option R} (T : Tc f), f = some r → claim L r T
  | _, .leaf _ v, h => by
    obtain rfl := Option.some.inj h
    exact hL
  | _, .leafq _ _ Q q, h => by
    obtain rfl := Option.some.inj h
    exact q
  | _, .fail, h => by cases h
  | _, .bd (e := e) k, h => by
    have hx : ∃ x, e = some x := by
      cases e with
      | none => cases h
      | some x => exact ⟨x, rfl⟩
    obtain ⟨x, he⟩ := hx
    exact ⟨x, he, claim_ok hL (k x he) (by rw [he] at h; exact h)⟩
  | _, .gd (b := b) k, h => by
    have hb : b = true := by
      cases b with
      | false => cases h
      | true => rfl
    exact ⟨hb, claim_ok hL (k hb) (by rw [hb] at h; exact h)⟩
  | _, .br (b := b) _ x y, h => ⟨rfl, fun q => claim_ok hL (x q) (by rw [q] at h; exact h), fun q => claim_ok hL (y q) (by rw [q] at h; exact h)⟩
  | _, .ite x y, h => ⟨fun q => claim_ok hL (x q) (by rw [q] at h; exact h), fun q => claim_ok hL (y q) (by rw [q] at h; exact h)⟩
  | _, .ob p k, h => ⟨p, claim_ok hL k h⟩
  | _, .rv _ _ p k, h => ⟨p, claim_ok hL k h⟩
  | _, .rb _ _ p k, h => ⟨p, claim_ok hL k h⟩
  | _, .v _ _ k, h => claim_ok hL k h
  | _, .z _ _ k, h => claim_ok hL k h
  | _, .ap _ _ _ k, h => claim_ok hL k h
  | _, .st _ k, h => claim_ok hL k h
  | _, .call _ _ _ _ _ k, h => claim_ok hL k h
  | _, .lp _ _ _ _ _ _ k, h => claim_ok hL k h
  | _, .jn _ _ _ _ _ _ _ k, h => claim_ok hL k h
  | _, .sk k, h => claim_ok hL k h
  | _, .cb _ _ _ k, h => claim_ok hL k h
  | _, .kl _ k, h => claim_ok hL k h
  | _, .mp _ k, h => claim_ok hL k h
  | _, .cl _ _ _ _ _ k, h => claim_ok hL k h
  | _, .er k, h => claim_ok hL k h

/-- Something is owed: the tree has it next. -/
def need (Q : Prop) (k : TS → Prop) : TS → Prop
  | ⟨.ob _ r⟩ => Q ∧ k ⟨r⟩
  | _ => False

/-- What stands in a tree ahead of a step. -/
def wPre (k : Fast → WH → TS → Prop) {R : Type} : {f : Option R} → Tc f → Fast → WH → Prop
  | _, .bd kk, l, H => ∃ x, ∃ q, wPre k (kk x q) l H
  | _, .gd kk, l, H => ∃ q, wPre k (kk q) l H
  | _, .ite x y, l, H => (∀ h, wPre k (x h) l H) ∧ (∀ h, wPre k (y h) l H)
  | _, .rv t u _ r, l, H => look l t = u ∧ wPre k r ((t, u) :: l) H
  | _, .rb b c _ r, l, H => match wget H b with
    | some (.cells c0 ro sl) => c0 = c ∧ wPre k r l (wput H b (some (.cells c ro sl)))
    | _ => False
  | _, t, l, H => k l H ⟨t⟩

/-- What is not spoken of any more. -/
def unkl : TS → TS
  | ⟨.kl _ r⟩ => ⟨r⟩
  | tr => tr
def wkill (H : WH) : List Nat → WH
  | [] => H
  | b :: r => wkill (wput H b none) r
def wkl : TS → WH → WH
  | ⟨.kl bs _⟩, H => wkill H bs
  | _, H => H

def isJn (tr : TS) : Bool := match unkl tr with
  | ⟨.jn ..⟩ => true
  | _ => false

def isD (d : Option Nat) (k : Nat) : Bool := match d with
  | some d => Nat.beq d k
  | none => false

/-- Read off the trace, where it speaks of 'd'. -/
def ovr (d : Option Nat) (x : Option AV) (tr : TS) (k : AV → TS → Prop) : Prop :=
  match tr with
  | ⟨.v d' u r⟩ => match isD d d' with
    | true => need (x = some u) (k u) ⟨r⟩
    | false => match x with
      | some v => k v tr
      | none => False
  | ⟨.z d' t r⟩ => match isD d d' with
    | true => match x with
      | some v => k (retag v (t.headD .undef)) ⟨r⟩
      | none => False
    | false => match x with
      | some v => k v tr
      | none => False
  | _ => match x with
    | some v => k v tr
    | none => False

/-- Cells of a new slice: as the trace has them. -/
def ovrC (d : Option Nat) (n : Nat) (cs : List AV) (tr : TS) (k : Nat → List AV → TS → Prop) : Prop :=
  match tr with
  | ⟨.ap d' n' cs' r⟩ => match isD d d' with
    | true => need (n = n') (need (cs = cs') (k n' cs')) ⟨r⟩
    | false => k n cs tr
  | _ => k n cs tr

def wMk (l c : AV) (n bytes : Nat) : Prop := l = .int .i64 n ∧ c = .int .i64 n ∧ n ≤ 4611686018427387904 ∧ bytes * n ≤ 281474976710656

def wK (d : Option Nat) (o : KOp) (tr : TS) (k : Blk → (Nat → AV) → TS → Prop) : Prop :=
  match o with
  | .alloc zero => match tr with
    | ⟨.z d' t r⟩ => match isD d d' with
      | true => k (.cells (retagL zero t) false false) (fun b => .ptr (some (b, 0))) ⟨r⟩
      | false => k (.cells zero false false) (fun b => .ptr (some (b, 0))) tr
    | _ => k (.cells zero false false) (fun b => .ptr (some (b, 0))) tr
  | .box x => match (x.ev []).cells? with
    | some cs => k (.cells cs false false) (fun b => .ptr (some (b, 0))) tr
    | none => False
  | .buildSlice sz len zero parts => match aFill (reps len zero) (parts.map fun p => (p.1 * sz, sz, p.2.ev [])) with
    | some cs => match Nat.beq zero.length sz with
      | true => k (.cells cs false false) (fun b => .acc b 0 sz len true) tr
      | false => False
    | none => False
  | .makeSlice sz bytes zero l c => match tr with
    | ⟨.ap d' n cs r⟩ => match isD d d' with
      | true => match Nat.beq zero.length sz, zero.all AV.flat with
        | true, true => need (wMk (l.ev []) (c.ev []) n bytes) (need (reps n zero = cs) (k (.cells cs false true) (fun b => .acc b 0 sz n true))) ⟨r⟩
        | _, _ => False
      | false => False
    | _ => False
  | .strBytes x => match x.ev [] with
    | .str s => need (s.length ≤ 70368744177664) (k (.cells (s.map fun b => .int .u8 b.toNat) false true) (fun b => .acc b 0 1 s.length true)) tr
    | _ => False
  | .makeMap => False

/-! ### What a call, or a part of a function, does -/

/-- Where the frame's blocks are; which are nothing but what is empty; which are not the frame's own any more; how great they are. -/
structure VI where
  to : Nat → Option Nat
  sol : Nat → Bool
  gone : Nat → Bool
  dim : Nat → Option (Nat × Nat)

instance : CoeFun VI (fun _ => Nat → Option Nat) := ⟨VI.to⟩
def VI.none : VI := ⟨fun _ => Option.none, fun _ => false, fun _ => false, fun _ => Option.none⟩

mutual
/-- 'κ': where the frame's blocks are; 'O': the blocks that somebody owns. -/
def VL (M : Heap) (O : Nat → Prop) : VI → AV → AV → Prop
  | _, .undef, _ => True
  | _, .bool b, a => a = .bool b
  | _, .int k n, a => a = .int k n
  | _, .str s, a => a = .str s
  | _, .ptr none, a => a = .ptr none
  | κ, .ptr (some q), a => ∃ j, κ q.1 = some j ∧ a = .ptr (some (j, q.2))
  | _, .slice none _ len cap ex, a => (len = 0 ∧ cap = 0 ∧ ex = true) ∧ ∃ s', a = .slice none s' 0 0 true
  | _, .slice (some _) _ _ _ _, _ => False
  | _, .map none, a => a = .map none
  | κ, .map (some r), a => ∃ j, κ r = some j ∧ a = .map (some j)
  | κ, .func f cs, a => ∃ cs', a = .func f cs' ∧ VLL M O κ cs cs'
  | _, .nilFunc, a => a = .nilFunc
  | κ, .agg cs, a => ∃ cs', a = .agg cs' ∧ VLL M O κ cs cs'
  | κ, .tuple cs, a => ∃ cs', a = .tuple cs' ∧ VLL M O κ cs cs'
  | _, .list sz len cs ex, a => (len = 0 ∧ cs = [] ∧ ∃ s', a = .slice none s' 0 0 true) ∨ ∃ b o cap ex', a = .slice (some (b, o)) sz len cap ex' ∧ len ≤ cap ∧ (ex = true → ex' = true ∧ cap = len) ∧ cs.length = len * sz ∧
      (len ≠ 0 → ∃ c ro sl, M.get b = some (.cells c ro sl) ∧ ¬ O b ∧ b < M.next ∧ o + len * sz ≤ c.length ∧ VLL M O VI.none cs ((c.drop o).take (len * sz)))
  | _, .elem cs, a => ∃ b o c ro sl, a = .ptr (some (b, o)) ∧ M.get b = some (.cells c ro sl) ∧ ¬ O b ∧ b < M.next ∧ VLL M O VI.none cs ((c.drop o).take cs.length)
  | κ, .acc b o sz n w, a => ∃ p s' cap ex, a = .slice p s' n cap ex ∧ n ≤ cap ∧ (p = none → cap = 0 ∧ ex = true) ∧ (p ≠ none → s' = sz) ∧ ∃ m L, κ.dim b = some (m, L) ∧ o + n * sz ≤ m ∧ (w = true → o = 0 ∧ n * sz = m) ∧
      ((∃ j, κ b = some j ∧ ((p = some (j, o) ∧ o + cap * sz ≤ L) ∨ (n = 0 ∧ cap = 0 ∧ ex = true))) ∨ (κ.sol b = true ∧ n = 0 ∧ cap = 0 ∧ ex = true ∧ m = 0))
def VLL (M : Heap) (O : Nat → Prop) : VI → List AV → List AV → Prop
  | _, [], [] => True
  | κ, a :: l, v :: r => VL M O κ a v ∧ VLL M O κ l r
  | _, _, _ => False
end

def own (ι : VI) : Nat → Prop := fun j => ∃ i, ι i = some j ∧ ι.gone i = false
/-- 'R': what is others'. -/
def OR (R : Nat → Prop) (ι : VI) : Nat → Prop := fun j => own ι j ∨ R j

def Heap.Ok (M : Heap) : Prop := ∀ b, M.next ≤ b → M.get b = none

def BL (M : Heap) (O : Nat → Prop) (κ : VI) (d : Option (Nat × Nat)) : Blk → Option Blk → Prop
  | .cells c ro sl, x => ∃ c' t ro' sl' L, x = some (.cells (c' ++ t) ro' sl') ∧ (ro = false → ro' = false) ∧ d = some (c.length, L) ∧ L ≤ (c' ++ t).length ∧ VLL M O (if sl then VI.none else κ) c c' ∧ (sl = false → sl' = false)
  | .map es, x => x = some (.map es) ∧ d = some (0, 0) ∧ scE es = true

def Blk.ro : Blk → Bool
  | .cells _ ro _ => ro
  | .map _ => false

/-- Names that are of use. -/
def act (ι : VI) (H : WH) (i : Nat) : Prop := (∃ x, wget H i = some x) ∨ ι.gone i = false

structure VS (R : Nat → Prop) (ι : VI) (H : WH) (M : Heap) : Prop where
  lt : ∀ i j, ι i = some j → i < H.length ∧ j < M.next
  inj : ∀ i i' j, act ι H i → act ι H i' → ι i = some j → ι i' = some j → ι.gone i = false ∨ ι.gone i' = false → i = i'
  blk : ∀ i x, wget H i = some x → (ι.sol i = true ∧ ι.dim i = some (0, 0) ∧ ∃ ro, x = .cells [] ro true) ∨ ∃ j, ι i = some j ∧ BL M (OR R ι) ι (ι.dim i) x (M.get j) ∧ (x.ro = false → ι.gone i = false)
  solt : ∀ i, ι.sol i = true → i < H.length ∧ ι i = none
  ice : ∀ i, ι.gone i = true → ∀ c sl, wget H i ≠ some (.cells c false sl)
  okM : M.Ok
  res : ∀ j, R j → j < M.next ∧ ∀ i, act ι H i → ι i ≠ some j

/-- What is nobody's stays as it is. -/
structure Keeps (M : Heap) (O : Nat → Prop) (M' : Heap) (O' : Nat → Prop) : Prop where
  next : M.next ≤ M'.next
  get : ∀ b, b < M.next → ¬ O b → M'.get b = M.get b ∧ ¬ O' b

def VI.Le (κ κ' : VI) (S : Nat → Prop) : Prop := ∀ i, S i → (∀ j, κ i = some j → κ' i = some j ∧ ∀ d, κ.dim i = some d → κ'.dim i = some d) ∧ (κ.sol i = true → κ'.sol i = true ∧ ∀ d, κ.dim i = some d → κ'.dim i = some d)

/-- What a step leaves: names below 'n' stay; of the blocks below 'n' none but those of 't' is written to. -/
structure Stp (n : Nat) (t : List Nat) (ι : VI) (H : WH) (M : Heap) (ι' : VI) (H' : WH) (M' : Heap) : Prop where
  keep : Keeps M (own ι) M' (own ι')
  le : VI.Le ι ι' (fun i => i < n)
  gone : ∀ i, i < n → ι.gone i = true → ι'.gone i = true
  toq : ∀ i, i < n → ι' i = ι i
  dimq : ∀ i, i < n → ι'.dim i = ι.dim i
  dgone : ∀ i, i < n → wget H i = none → ι'.gone i = ι.gone i
  live : ∀ i, i < n → (∃ x, wget H' i = some x) → ∃ x, wget H i = some x
  tch : ∀ i j, i < n → act ι' H' i → ι i = some j → i ∉ t → M'.get j = M.get j
  next : n ≤ H'.length

def Spec (C : ACalls) (f : FuncId) (args : List AV) (blks : WH) (v : AV) (out : WH) : Prop :=
  ∀ R ι M as, VS R ι blks M → VLL M (OR R ι) ι args as → ∃ a M' ι', C f as M = some (a, M') ∧ VS R ι' out M' ∧ Stp blks.length (List.range blks.length) ι blks M ι' out M' ∧ VL M' (OR R ι') ι' v a

/-- A part of a function: 'np': how many of the blocks keep their names. -/
def RunS (run : Fast → Heap → BOut) (np : Nat) (ins : Fast) (blks : WH) (ex : Ex) (outs : Fast) (out : WH) : Prop :=
  ∀ R ι M lA, VS R ι blks M → (∀ t, VL M (OR R ι) ι (look ins t) (look lA t)) → ∃ lA' M' ι', run lA M = some (ex, lA', M') ∧ VS R ι' out M' ∧ Stp np (List.range np) ι blks M ι' out M' ∧ ∀ t, VL M' (OR R ι') ι' (look outs t) (look lA' t)

/-! ### Functions that are known by themselves -/

inductive Bt where
  | clone (sz bytes : Nat)
  | clip (sz : Nat)
  | grow (sz bytes : Nat)
  | ins (sz bytes : Nat)
  | del (sz : Nat)

def wBt (b : Bt) (d : Option Nat) (args : List AV) (H : WH) (tr : TS) (k : AV → WH → List Nat → TS → Prop) : Prop :=
  match b with
  | .clone sz bytes => match args with
    | [v] => match v with
      | .str _ => False
      | v => match wElems v sz H with
        | some (n, cs, S) => ovrC d n cs tr fun n cs tr => need (fitsB bytes n = true) (k (.acc H.length 0 sz n true) (wice H S ++ [some (.cells cs false true)]) []) tr
        | none => False
    | _ => False
  | .grow sz bytes => match args with
    | [.slice none _ 0 0 true, .int .i64 n] => need (0 ≤ n ∧ n ≤ 70368744177664 ∧ bytes * n.toNat ≤ 281474976710656 ∧ n.toNat * bytes ≤ 70368744177664) (k (.acc H.length 0 sz 0 true) (H ++ [some (.cells [] false true)]) []) tr
    | _ => False
  | .clip sz => match args with
    | [.slice none z 0 0 true] => k (.slice none sz 0 0 true) H [] tr
    | [.list sz' n cs _] => match Nat.beq sz' sz with
      | true => k (.list sz n cs true) H [] tr
      | false => False
    | [.acc b o sz' n w] => match Nat.beq sz' sz with
      | true => k (.acc b o sz n w) H [] tr
      | false => False
    | _ => False
  | .ins sz bytes => match args with
    | [.acc b o sz1 n w, .int .i64 i, .acc b2 o2 sz2 m w2] => match Nat.beq b b2 with
      | true => False
      | false => match wget H b2 with
        | some (.cells _ false false) => match wElems (.acc b2 o2 sz2 m w2) sz H with
          | some (m, new, []) => match Nat.beq m 1 with
            | true => match wBase (.acc b o sz1 n w) sz H with
              | some (len, old, H', t) => need (0 ≤ i ∧ i ≤ (len : Int)) (fun tr => ovrC d (len + 1) (old.take (i.toNat * sz) ++ (new ++ old.drop (i.toNat * sz))) tr fun N cs tr => need (fitsB bytes N = true) (k (.acc H'.length 0 sz N true) (H' ++ [some (.cells cs false true)]) t) tr) tr
              | none => False
            | false => False
          | _ => False
        | _ => False
    | _ => False
  | .del sz => match args with
    | [.acc b 0 sz1 n true, .int .i64 i, .int .i64 j] => match Nat.beq sz1 sz with
      | true => match wget H b with
        | some (.cells c false true) => need (0 ≤ i ∧ i < j ∧ j ≤ (n : Int)) (fun tr => ovrC d (n - (j.toNat - i.toNat)) (c.take (i.toNat * sz) ++ c.drop (j.toNat * sz)) tr fun N cs tr => k (.acc H.length 0 sz N true) (wput H b none ++ [some (.cells cs false true)]) [b] tr) tr
        | _ => False
      | false => False
    | _ => False

def zipKeep : List Nat → List AV → Fast
  | t :: r, v :: s => (t, v) :: zipKeep r s
  | _, _ => []

/-- What is handed to a part of a function. -/
def wEnter (np : Nat) (ms bs : List (Option Bool)) (ts : List AV) (vs : List AV) (H : WH) (k : List AV → WH → Prop) : Prop :=
  match nrmL ms (retagL vs ts) H with
  | (vs, H) => match nrmBs bs none (clo H np (idsOfL vs)) H with
    | H => match clo H np (idsOfL vs) with
      | p => k (rnL (ixOf p) vs) (closeH H p p)

mutual
/-- A value that bears no memory. -/
def scal : AV → Bool
  | .bool _ | .int .. | .str _ | .ptr none | .nilFunc => true
  | .slice none _ 0 0 true => true
  | .tuple cs => scalL cs
  | .agg cs => scalL cs
  | _ => false
def scalL : List AV → Bool
  | [] => true
  | v :: r => match scal v with
    | true => scalL r
    | false => false
end

mutual
/-- A value in which there is no list that others may have. -/
def clean : AV → Bool
  | .list .. | .elem _ => false
  | .func _ cs => cleanL cs
  | .tuple cs => cleanL cs
  | .agg cs => cleanL cs
  | _ => true
def cleanL : List AV → Bool
  | [] => true
  | v :: r => match clean v with
    | true => cleanL r
    | false => false
end

/-- Blocks in which there is no list that others may have, and that nobody else has. -/
def needC : WH → (TS → Prop) → TS → Prop
  | [], k, tr => k tr
  | none :: r, k, tr => needC r k tr
  | some (.cells c ro sl) :: r, k, tr => match ro, sl with
    | false, false => match cleanL c with
      | true => needC r k tr
      | false => False
    | false, true => need (cleanL c = true) (needC r k) tr
    | _, _ => False
  | some (.map _) :: _, _, _ => False

/-- What is lent: as it stands; and the blocks that it is in. -/
def lendL (H : WH) : List Bool → List AV → Option (List AV × List Nat)
  | _, [] => some ([], [])
  | bs, v :: r => match lendL H bs.tail r with
    | some q => match bs.headD false with
      | false => some (v :: q.1, q.2)
      | true => match frz H 5 false v with
        | some p => some (p.1 :: q.1, p.2 ++ q.2)
        | none => none
    | none => none

def apart (S : List Nat) : List Nat → Bool
  | [] => true
  | b :: p => match hasN S b with
    | true => false
    | false => apart S p

def wCall (C : ACalls) (g : FuncId) (args : List AV) (H : WH) (tr : TS) (k : AV → WH → List Nat → TS → Prop) : Prop :=
  match tr with
  | ⟨.call ms m ts v out r⟩ => match nrmL ms (retagL args ts) H with
    | (vs, H) => match nrmBs [] m (clo H 0 (idsOfL vs)) H with
      | H => match clo H 0 (idsOfL vs) with
        | p => match Nat.ble p.length out.length with
          | true => need (Spec C g (rnL (ixOf p) vs) (closeH H p p) v out) (k (rn (back p H.length) v) (openH H p out) p) ⟨r⟩
          | false => False
  | ⟨.cl ms ls ts v out r⟩ => match nrmL ms (retagL args ts) H with
    | (vs, H) => match lendL H ls vs with
      | some q => match clo (wice H q.2) 0 (idsOfL q.1) with
        | p => match Nat.ble p.length out.length, apart q.2 p, clean v with
          | true, true, true => needC out (need (Spec C g (rnL (ixOf p) q.1) (closeH (wice H q.2) p p) v out) (k (rn (back p H.length) v) (openH H p out) p)) ⟨r⟩
          | _, _, _ => False
      | none => False
  | ⟨.cb ms ts v r⟩ => match nrmL ms (retagL args ts) H with
    | (vs, H1) => match clo H1 0 (idsOfL vs), scal v with
      | [], true => need (Spec C g (rnL (ixOf []) vs) [] v []) (k v H []) ⟨r⟩
      | _, _ => False
  | _ => False

def wN (C : ACalls) (B : FuncId → Option Bt) (d : Option Nat) (o : NOp) (H : WH) (tr : TS) (k : AV → WH → List Nat → TS → Prop) : Prop :=
  match o with
  | .store n a v => match a.ev [], (v.ev []).cells? with
    | .ptr (some (b, off)), some cs => match Nat.beq cs.length n with
      | true => match tr with
        | ⟨.st x r⟩ => match wget H b with
          | some (.cells c false sl) => match sl with
            | false => match x with
              | none => match wrC c off cs with
                | some c' => k (.tuple []) (wput H b (some (.cells c' false false))) [b] ⟨r⟩
                | none => False
              | some c' => need (wrC c off cs = some c') (k (.tuple []) (wput H b (some (.cells c' false false))) [b]) ⟨r⟩
            | true => match frzL (frz H 5 true) cs with
              | some p => match hasN p.2 b with
                | true => False
                | false => match x with
                  | none => match wrC c off p.1 with
                    | some c' => k (.tuple []) (wput (wice H p.2) b (some (.cells c' false true))) [b] ⟨r⟩
                    | none => False
                  | some c' => need (wrC c off p.1 = some c') (k (.tuple []) (wput (wice H p.2) b (some (.cells c' false true))) [b]) ⟨r⟩
              | none => False
          | _ => False
        | _ => False
      | false => False
    | _, _ => False
  | .call f args => match f.ev [] with
    | .func g caps => match B g with
      | some bt => wBt bt d (args.map (AX.ev []) ++ caps) H tr k
      | none => wCall C g (args.map (AX.ev []) ++ caps) H tr k
    | _ => False
  | .append sz bytes s x => match wElems (x.ev []) sz H with
    | some (m, new, S) => match wBase (s.ev []) sz (wice H S) with
      | some (len, old, H', t) => ovrC d (len + m) (old ++ new) tr fun n cs tr => need (fitsB bytes n = true) (k (.acc H'.length 0 sz n true) (H' ++ [some (.cells cs false true)]) t) tr
      | none => False
    | none => False
  | .mapUpdate kd m x v => match m.ev [] with
    | .map (some r) => match wget H r, sc (x.ev []), AV.isCell (x.ev []), sc (v.ev []), (v.ev []).cells? with
      | some (.map es), true, true, true, some _ => match tr with
        | ⟨.mp es' t⟩ => need (mapUp kd (x.ev []) (v.ev []) es = some es') (k (.tuple []) (wput H r (some (.map es'))) [r]) ⟨t⟩
        | _ => False
      | _, _, _, _, _ => False
    | _ => False
  | .mapDelete kd m x => match m.ev [] with
    | .map (some r) => match wget H r, sc (x.ev []) with
      | some (.map es), true => match tr with
        | ⟨.mp es' t⟩ => need (mapDl kd (x.ev []) es = some es') (k (.tuple []) (wput H r (some (.map es'))) [r]) ⟨t⟩
        | _ => False
      | _, _ => False
    | _ => False
  | .cvBytes x => match x.ev [] with
    | .acc b 0 sz (n + 1) true => match wget H b with
      | some (.cells c false sl) => match sl || c.all AV.flat with
        | true => k (.acc b 0 sz (n + 1) true) (wput H b (some (.cells c false true))) [b] tr
        | false => False
      | _ => False
    | _ => False
  | _ => False

/-! ### Regions -/

def wIf (c want : Bool) (y n : Prop) : Prop :=
  match c, want with
  | true, true => y
  | false, false => y
  | _, _ => n

/-- Is an operation wanted? The trace may part the ways. -/
def wGd (g : Option (Nat × Bool)) (l : Fast) (tr : TS) (yes no : Fast → TS → Prop) : Prop :=
  match g with
  | none => yes l tr
  | some (t, want) => match look l t with
    | .bool c => match tr with
      | ⟨.br (b := b) t' x y⟩ => match Nat.beq t t' with
        | true => c = b ∧ ((∀ h, wIf true want (yes ((t, .bool true) :: l) ⟨x h⟩) (no ((t, .bool true) :: l) ⟨x h⟩)) ∧ (∀ h, wIf false want (yes ((t, .bool false) :: l) ⟨y h⟩) (no ((t, .bool false) :: l) ⟨y h⟩)))
        | false => wIf c want (yes l tr) (no l tr)
      | _ => wIf c want (yes l tr) (no l tr)
    | .tuple _ => no l tr
    | _ => False

/-- One step. -/
def wStep (l : Fast) (H : WH) (tr : TS) (k : Fast → WH → TS → Prop) : Prop := wPre k tr.tr l H

def wops (C : ACalls) (B : FuncId → Option Bt) (n : Nat) : List AOper → Fast → WH → TS → (Fast → WH → TS → Prop) → Prop
  | [], l, H, tr, k => k l H tr
  | o :: r, l, H, tr, k => wStep l H tr fun l H tr => wGd o.guard l tr
    (fun l tr => wStep l H tr fun l H tr => match o.op with
      | .p op => ovr o.dst (wP (op.sub (look l))) tr fun v tr => wops C B n r (bput n o.dst v l) H tr k
      | .l op => ovr o.dst (wL (op.sub (look l)) H) tr fun v tr => wops C B n r (bput n o.dst v l) H tr k
      | .k .makeMap => wops C B n r (bput n o.dst (.map (some H.length)) l) (H ++ [some (.map [])]) tr k
      | .k op => wK o.dst (op.sub (look l)) tr fun x mk tr => wops C B n r (bput n o.dst (mk H.length) l) (H ++ [some x]) tr k
      | .n op => wN C B o.dst (op.sub (look l)) H tr fun v H _ tr => wops C B n r (bput n o.dst v l) H tr k)
    (fun l tr => wops C B n r (bput n o.dst (.tuple []) l) H tr k)

/-- How many loud operations there had been when what a temporary bears was known, and one; 0: it was there ahead of the region. -/
def bornOf : List (Nat × Nat) → Nat → Nat
  | [], _ => 0
  | p :: r, t => match Nat.beq p.1 t with
    | true => p.2
    | false => bornOf r t

def bornX (bt : List (Nat × Nat)) : AX → Nat
  | .t t => bornOf bt t
  | .c _ => 0

def bornXs (bt : List (Nat × Nat)) : List AX → Nat
  | [] => 0
  | x :: r => max (bornX bt x) (bornXs bt r)

def bornXO (bt : List (Nat × Nat)) : Option AX → Nat
  | none => 0
  | some x => bornX bt x

def bornP (bt : List (Nat × Nat)) (k : Nat) : POp → Nat
  | .move x => bornX bt x
  | .slice _ x a b c => max (bornX bt x) (max (bornXO bt a) (max (bornXO bt b) (bornXO bt c)))
  | .idxSlice _ x i => max (bornX bt x) (bornX bt i)
  | .idxArr _ _ x i => max (bornX bt x) (bornX bt i)
  | .fieldAddr _ x => bornX bt x
  | .nilCheck x => bornX bt x
  | .bin _ x y => max (bornX bt x) (bornX bt y)
  | .un _ x => bornX bt x
  | .cvInt _ x => bornX bt x
  | .field _ _ _ x => bornX bt x
  | .index _ _ _ x i => max (bornX bt x) (bornX bt i)
  | .extract x _ => bornX bt x
  | .len _ x => bornX bt x
  | _ => k

def bornPut (n : Nat) (d : Option Nat) (k : Nat) (bt : List (Nat × Nat)) : List (Nat × Nat) :=
  match d with
  | some d => match Nat.blt d n with
    | true => (d, k) :: bt
    | false => bt
  | none => bt

mutual
/-- Nothing in it is unknown. -/
def known : AV → Bool
  | .undef => false
  | .func _ cs => knownL cs
  | .agg cs => knownL cs
  | .tuple cs => knownL cs
  | _ => true
def knownL : List AV → Bool
  | [] => true
  | v :: r => match known v with
    | true => knownL r
    | false => false
end

/-- What a load reads: a list, or a block of the frame. -/
def srcL (l : Fast) : LOp → Option (Option Nat)
  | .load _ _ (.t t) => match look l t with
    | .elem _ => some none
    | .ptr (some q) => some (some q.1)
    | _ => none
  | .bytesStr (.t t) => match look l t with
    | .list .. => some none
    | .slice none _ _ _ _ => some none
    | .acc b _ _ _ _ => some (some b)
    | _ => none
  | .mapLen (.t t) => match look l t with
    | .map (some r) => some (some r)
    | _ => none
  | .lookup _ _ _ (.t t) _ => match look l t with
    | .map (some r) => some (some r)
    | _ => none
  | _ => none

def bornL (bt : List (Nat × Nat)) : LOp → Nat
  | .load _ _ x => bornX bt x
  | .bytesStr x => bornX bt x
  | _ => 0

/-- No block of the region is frozen, or given up. -/
def thawed (H : WH) (base : Nat) : List Nat → Bool
  | [] => true
  | m :: r => match wget H (base + m) with
    | some (.cells _ false _) => thawed H base r
    | _ => false

def touches (b : Nat) : List (List Nat × WH) → Bool
  | [] => false
  | t :: r => match hasN t.1 b with
    | true => true
    | false => touches b r

/-- The same, ahead of the first operation that the load need not follow. -/
def thawedAt (hs : List (List Nat × WH)) (lo base : Nat) (al : List Nat) : Bool := match hs.drop lo with
  | (_, Hk) :: _ => thawed Hk base al
  | [] => false

/-- May a load be done here, and wherever it may be done? 'hs': what each loud operation so far wrote to. -/
def loadOk (base : Nat) (al : List Nat) (l : Fast) (bt : List (Nat × Nat)) (lo : Nat) (o : LOp) (v : AV) (H : WH) (hs : List (List Nat × WH)) : Bool :=
  match srcL l o with
  | some none => match Nat.ble (bornL bt o) (lo + 1), known v, thawed H base al || thawedAt hs lo base al with
    | true, true, true => true
    | true, true, false => Nat.beq (bornL bt o) 0
    | _, _, _ => false
  | some (some b) => match known v, Nat.blt b base, touches b (hs.drop lo) with
    | true, true, false => true
    | _, _, _ => false
  | none => false

/-- A load of what does not hang on names, out of a block that was written to, but bears what it bore. -/
def laterB (base : Nat) (l : Fast) (bt : List (Nat × Nat)) (lo : Nat) (o : LOp) (v : AV) : Bool :=
  match o with
  | .load _ _ (.t t) => match look l t, v with
    | .ptr (some (b, _)), .int _ _ => Nat.blt b base && Nat.ble (bornOf bt t) (lo + 1)
    | .ptr (some (b, _)), .str _ => Nat.blt b base && Nat.ble (bornOf bt t) (lo + 1)
    | .ptr (some (b, _)), .bool _ => Nat.blt b base && Nat.ble (bornOf bt t) (lo + 1)
    | _, _ => false
  | _ => false
def laterGo (o : LOp) (x : Option AV) (k : TS → Prop) : List (List Nat × WH) → TS → Prop
  | [], tr => k tr
  | h :: r, tr => need (wL o h.2 = x) (laterGo o x k r) tr

/-- What a load reads, if it is a block. -/
def srcB (l : Fast) : LOp → Option Nat
  | .load _ _ (.t t) => match look l t with
    | .ptr (some q) => some q.1
    | _ => none
  | _ => none

def wdops (C : ACalls) (B : FuncId → Option Bt) (n base nk : Nat) : List DOper → Fast → WH → TS → List (List Nat × WH) → List (Nat × Nat) → List Nat → (Fast → WH → TS → Prop) → Prop
  | [], l, H, tr, _, _, _, k => k l H tr
  | d :: r, l, H, tr, hs, bt, al, k => wStep l H tr fun l H tr => wGd d.o.guard l tr
    (fun l tr => wStep l H tr fun l H tr => match d.o.op with
      | .p op => ovr d.o.dst (wP (op.sub (look l))) tr fun v tr => wdops C B n base nk r (bput n d.o.dst v l) H tr hs (bornPut n d.o.dst (bornP bt (hs.length + 1) op) bt) al k
      | .l op => ovr d.o.dst (wL (op.sub (look l)) H) tr fun v tr => match loadOk base al l bt d.lo op v H hs with
        | true => match tr with
          | ⟨.er t⟩ => match srcB l op, Nat.ble (bornL bt op) (d.lo + 1) with
            | some _, true => laterGo (op.sub (look l)) (wL (op.sub (look l)) H) (fun tr => wdops C B n base nk r (bput n d.o.dst v l) H tr hs (bornPut n d.o.dst (d.lo + 1) bt) al k) (hs.drop d.lo) ⟨t⟩
            | _, _ => False
          | _ => wdops C B n base nk r (bput n d.o.dst v l) H tr hs (bornPut n d.o.dst (hs.length + 1) bt) al k
        | false => match laterB base l bt d.lo op v with
          | true => laterGo (op.sub (look l)) (wL (op.sub (look l)) H) (fun tr => wdops C B n base nk r (bput n d.o.dst v l) H tr hs (bornPut n d.o.dst (hs.length + 1) bt) al k) (hs.drop d.lo) tr
          | false => False
      | .k op => match Nat.blt d.ix nk, hasN al d.ix with
        | true, false => wK d.o.dst (op.sub (look l)) tr fun x mk tr => wdops C B n base nk r (bput n d.o.dst (mk (base + d.ix)) l) (wput H (base + d.ix) (some x)) tr hs (bornPut n d.o.dst (hs.length + 1) bt) (d.ix :: al) k
        | _, _ => False
      | .n op => wN C B d.o.dst (op.sub (look l)) H tr fun v H' t tr => wdops C B n base nk r (bput n d.o.dst v l) H' tr (hs ++ [(t, H)]) (bornPut n d.o.dst (hs.length + 2) bt) al k)
    (fun l tr => match d.o.op with
      | .n _ => wdops C B n base nk r (bput n d.o.dst (.tuple []) l) H tr (hs ++ [([], H)]) (bornPut n d.o.dst (hs.length + 2) bt) al k
      | _ => wdops C B n base nk r (bput n d.o.dst (.tuple []) l) H tr hs (bornPut n d.o.dst (hs.length + 1) bt) al k)

def holes : Nat → WH
  | 0 => []
  | k + 1 => none :: holes k

/-! ### Code -/

def wexec (C : ACalls) (B : FuncId → Option Bt) (K n np : Nat) : ACode → Fast → WH → TS → (Ex → Fast → WH → TS → Prop) → Prop
  | .skip, l, H, tr, k => k .normal l H tr
  | .reg ops, l, H, tr, k => wops C B n ops l H tr (k .normal)
  | .dreg nk ops, l, H, tr, k => wdops C B n H.length nk ops l (H ++ holes nk) tr [] [] [] (k .normal)
  | .seq a b, l, H, tr, k => wStep l H tr fun l H tr => match isJn tr with
    | true => match unkl tr with
      | ⟨.jn keep ms bs ts ex outs out r⟩ => wEnter np ms bs ts (keep.map (look l)) (wkl tr H) fun vs blks => need (RunS (bexec C K n a) np (zipKeep keep vs) blks ex outs out) (fun r =>
        match ex with
        | .normal => wexec C B K n np b outs out r k
        | ex => k ex outs out r) ⟨r⟩
      | _ => False
    | false => wexec C B K n np a l H (match tr with
      | ⟨.sk r⟩ => ⟨r⟩
      | tr => tr) fun ex l H tr => match ex with
      | .normal => wexec C B K n np b l H tr k
      | ex => k ex l H tr
  | .cond c a b, l, H, tr, k => wStep l H tr fun l H tr => wGd (match c with
      | .t t => some (t, true)
      | .c _ => none) l tr
    (fun l tr => match c with
      | .t _ => wexec C B K n np a l H tr k
      | .c (.bool true) => wexec C B K n np a l H tr k
      | .c (.bool false) => wexec C B K n np b l H tr k
      | _ => False)
    (fun l tr => match look l (match c with
      | .t t => t
      | .c _ => 0) with
      | .bool _ => wexec C B K n np b l H tr k
      | _ => False)
  | .block id c, l, H, tr, k => wexec C B K n np c l H tr fun ex l H tr => match ex with
    | .exit i => match Nat.beq i id with
      | true => k .normal l H tr
      | false => k (.exit i) l H tr
    | ex => k ex l H tr
  | .loop keep c, l, H, tr, k => wStep l H tr fun l H tr => match unkl tr with
    | ⟨.lp ms bs ts ex outs out r⟩ => wEnter np ms bs ts (keep.map (look l)) (wkl tr H) fun vs blks => need (RunS (bloop (bexec C K n c) keep K) np (zipKeep keep vs) blks ex outs out) (k ex outs out) ⟨r⟩
    | _ => False
  | .exit id, l, H, tr, k => k (.exit id) l H tr
  | .ret, l, H, tr, k => k .ret l H tr
  | .fail, _, _, _, _ => False

/-! ### A function's end -/

def wRes (r : ARes) (l : Fast) (H : WH) : Option AV :=
  match r with
  | .tmp t => match look l t with
    | .undef => none
    | v => some v
  | .cell t agg n => wL (.load agg n (.c (look l t))) H

def wResL : List ARes → Fast → WH → Option (List AV)
  | [], _, _ => some []
  | r :: rs, l, H => match wRes r l H, wResL rs l H with
    | some v, some vs => some (v :: vs)
    | _, _ => none

def wResults (rs : List ARes) (l : Fast) (H : WH) : Option AV := match wResL rs l H with
  | some [v] => some v
  | some vs => some (.tuple vs)
  | none => none

def lfOf (tr : TS) : Option Lf := match unkl tr with
  | ⟨.leaf x _⟩ => some x
  | ⟨.leafq x _ _ _⟩ => some x
  | _ => none

def wEnd (np : Nat) (v : AV) (H : WH) (tr : TS) (v' : AV) (out : WH) : Prop :=
  match lfOf tr with
  | some (.fin m ts mc) => match nrm m (retag v (ts.headD .undef)) (wkl tr H) with
    | (v, H) => match nrmBs [] mc (clo H np (idsOf v)) H with
      | H => match clo H np (idsOf v) with
        | p => rn (ixOf p) v = v' ∧ closeH H p p = out
  | _ => False

def wBody (C : ACalls) (B : FuncId → Option Bt) (K : Nat) (f : AFunc) (args : List AV) (blks : WH) (tr : TS) (v : AV) (out : WH) : Prop :=
  wexec C B K f.ntmps blks.length f.code (start 0 (args ++ List.replicate (f.ntmps - f.nargs) (.tuple []))) blks tr fun ex l H tr => wStep l H tr fun l H tr => match ex with
    | .exit _ => False
    | _ => match wResults f.results l H with
      | some u => wEnd blks.length u H tr v out
      | none => False

/-- A part's end. -/
def wPart (np : Nat) (e : Ex) (l : Fast) (H : WH) (tr : TS) (x : Ex × Fast × WH) : Prop :=
  wStep l H tr fun l H tr => match lfOf tr with
  | some (.en keep ms bs ts) => wEnter np ms bs ts (keep.map (look l)) (wkl tr H) fun vs blks => e = x.1 ∧ zipKeep keep vs = x.2.1 ∧ blks = x.2.2
  | _ => False

def wCode (C : ACalls) (B : FuncId → Option Bt) (K n np : Nat) (c : ACode) (ins : Fast) (blks : WH) (tr : TS) (x : Ex × Fast × WH) : Prop :=
  wexec C B K n np c ins blks tr fun e l H tr => wPart np e l H tr x

theorem need_ok {Q : Prop} {k : TS → Prop} {tr : TS} (h : need Q k tr) : ∃ tr', Q ∧ k tr' := by
  unfold need at h
  split at h
  · exact ⟨_, h⟩
  · exact h.elim

end Go.Proofs.Ytlcjmchhnbdepaa
end

section
/- W, second part: what a value of W says of a value of the abstract machine. -/
set_option linter.all false
set_option linter.unusedSimpArgs false
namespace Go.Proofs.Ytlcjmchhnbdepaa

theorem VI.Le.refl (κ : VI) (S : Nat → Prop) : VI.Le κ κ S := fun _ _ => ⟨fun _ h => ⟨h, fun _ h => h⟩, fun h => ⟨h, fun _ h => h⟩⟩
theorem VI.Le.of_none (κ : VI) (S : Nat → Prop) : VI.Le VI.none κ S := fun _ _ => ⟨(fun _ h => by cases h), (fun h => by cases h)⟩
theorem VI.Le.sub {κ κ' : VI} {S T : Nat → Prop} (h : VI.Le κ κ' S) (k : ∀ i, T i → S i) : VI.Le κ κ' T := fun i hi => h i (k i hi)
theorem VI.Le.trans {κ κ1 κ2 : VI} {S : Nat → Prop} (h : VI.Le κ κ1 S) (k : VI.Le κ1 κ2 S) : VI.Le κ κ2 S := fun i hi =>
  ⟨fun j hj => ⟨((k i hi).1 j ((h i hi).1 j hj).1).1, fun d hd => ((k i hi).1 j ((h i hi).1 j hj).1).2 d (((h i hi).1 j hj).2 d hd)⟩,
   fun hj => ⟨((k i hi).2 ((h i hi).2 hj).1).1, fun d hd => ((k i hi).2 ((h i hi).2 hj).1).2 d (((h i hi).2 hj).2 d hd)⟩⟩

theorem Keeps.refl (M : Heap) (O : Nat → Prop) : Keeps M O M O := ⟨Nat.le_refl _, fun _ _ h => ⟨rfl, h⟩⟩
theorem Keeps.trans {M M1 M2 : Heap} {O O1 O2 : Nat → Prop} (h : Keeps M O M1 O1) (k : Keeps M1 O1 M2 O2) : Keeps M O M2 O2 :=
  ⟨Nat.le_trans h.next k.next, fun b hb ho => by
    obtain ⟨e1, o1⟩ := h.get b hb ho
    obtain ⟨e2, o2⟩ := k.get b (Nat.lt_of_lt_of_le hb h.next) o1
    exact ⟨e2.trans e1, o2⟩⟩
theorem Keeps.or {M M' : Heap} {ι ι' : VI} (h : Keeps M (own ι) M' (own ι')) (R : Nat → Prop) : Keeps M (OR R ι) M' (OR R ι') :=
  ⟨h.next, fun b hb ho => by
    obtain ⟨e1, e2⟩ := h.get b hb (fun k => ho (.inl k))
    exact ⟨e1, fun k => k.elim e2 (fun k => ho (.inr k))⟩⟩

mutual
theorem VL.mono {M M' : Heap} {O O' : Nat → Prop} (hk : Keeps M O M' O') : ∀ (κ κ' : VI) (v a : AV), VI.Le κ κ' (fun i => i ∈ idsOf v) → VL M O κ v a → VL M' O' κ' v a
  | _, _, .undef, _, _, _ => by simp [VL]
  | _, _, .bool _, _, _, e => by simpa [VL] using e
  | _, _, .int _ _, _, _, e => by simpa [VL] using e
  | _, _, .str _, _, _, e => by simpa [VL] using e
  | _, _, .ptr none, _, _, e => by simpa [VL] using e
  | κ, κ', .ptr (some q), _, h, e => by
    simp only [VL] at e ⊢
    obtain ⟨j, h1, h2⟩ := e
    exact ⟨j, ((h _ (by simp [idsOf])).1 _ h1).1, h2⟩
  | _, _, .slice none _ _ _ _, _, _, e => by simpa [VL] using e
  | _, _, .slice (some _) _ _ _ _, _, _, e => by simp [VL] at e
  | _, _, .map none, _, _, e => by simpa [VL] using e
  | κ, κ', .map (some r), _, h, e => by
    simp only [VL] at e ⊢
    obtain ⟨j, h1, h2⟩ := e
    exact ⟨j, ((h _ (by simp [idsOf])).1 _ h1).1, h2⟩
  | κ, κ', .func f cs, _, h, e => by
    simp only [VL] at e ⊢
    obtain ⟨cs', h1, h2⟩ := e
    exact ⟨cs', h1, VLL.mono hk κ κ' cs cs' (h.sub fun i hi => by simpa [idsOf] using hi) h2⟩
  | _, _, .nilFunc, _, _, e => by simpa [VL] using e
  | κ, κ', .agg cs, _, h, e => by
    simp only [VL] at e ⊢
    obtain ⟨cs', h1, h2⟩ := e
    exact ⟨cs', h1, VLL.mono hk κ κ' cs cs' (h.sub fun i hi => by simpa [idsOf] using hi) h2⟩
  | κ, κ', .tuple cs, _, h, e => by
    simp only [VL] at e ⊢
    obtain ⟨cs', h1, h2⟩ := e
    exact ⟨cs', h1, VLL.mono hk κ κ' cs cs' (h.sub fun i hi => by simpa [idsOf] using hi) h2⟩
  | _, _, .list sz len cs ex, _, _, e => by
    simp only [VL] at e ⊢
    rcases e with e | ⟨b, o, cap, ex', h1, h2, h3, h4, h5⟩
    · exact .inl e
    refine .inr ⟨b, o, cap, ex', h1, h2, h3, h4, fun hl => ?_⟩
    obtain ⟨c, ro, sl, g1, g2, g3, g4, g5⟩ := h5 hl
    obtain ⟨e1, e2⟩ := hk.get b g3 g2
    exact ⟨c, ro, sl, e1.trans g1, e2, Nat.lt_of_lt_of_le g3 hk.next, g4, VLL.mono hk _ _ cs _ (VI.Le.refl _ _) g5⟩
  | _, _, .elem cs, _, _, e => by
    simp only [VL] at e ⊢
    obtain ⟨b, o, c, ro, sl, h1, g1, g2, g3, g5⟩ := e
    obtain ⟨e1, e2⟩ := hk.get b g3 g2
    exact ⟨b, o, c, ro, sl, h1, e1.trans g1, e2, Nat.lt_of_lt_of_le g3 hk.next, VLL.mono hk _ _ cs _ (VI.Le.refl _ _) g5⟩
  | κ, κ', .acc b o sz n w, _, h, e => by
    simp only [VL] at e ⊢
    obtain ⟨p, s', cap, ex, h1, h2, h3, h4, m, L, h5, h6, h7, h8⟩ := e
    have hl := h b (by simp [idsOf])
    rcases h8 with ⟨j, k1, k2⟩ | ⟨k1, k2⟩
    · obtain ⟨g1, g2⟩ := hl.1 j k1
      exact ⟨p, s', cap, ex, h1, h2, h3, h4, m, L, g2 _ h5, h6, h7, .inl ⟨j, g1, k2⟩⟩
    · obtain ⟨g1, g2⟩ := hl.2 k1
      exact ⟨p, s', cap, ex, h1, h2, h3, h4, m, L, g2 _ h5, h6, h7, .inr ⟨g1, k2⟩⟩
theorem VLL.mono {M M' : Heap} {O O' : Nat → Prop} (hk : Keeps M O M' O') : ∀ (κ κ' : VI) (l r : List AV), VI.Le κ κ' (fun i => i ∈ idsOfL l) → VLL M O κ l r → VLL M' O' κ' l r
  | _, _, [], [], _, _ => by simp [VLL]
  | κ, κ', a :: l, v :: r, h, e => by
    simp only [VLL] at e ⊢
    exact ⟨VL.mono hk κ κ' a v (h.sub fun i hi => by simp [idsOfL, hi]) e.1, VLL.mono hk κ κ' l r (h.sub fun i hi => by simp [idsOfL, hi]) e.2⟩
  | _, _, [], _ :: _, _, e => by simp [VLL] at e
  | _, _, _ :: _, [], _, e => by simp [VLL] at e
end

section
variable {M : Heap} {O : Nat → Prop} {κ : VI}

theorem VLL.length : ∀ {l r : List AV}, VLL M O κ l r → l.length = r.length
  | [], [], _ => rfl
  | _ :: l, _ :: r, e => by
    simp only [VLL] at e
    simp [VLL.length e.2]
  | [], _ :: _, e => by simp [VLL] at e
  | _ :: _, [], e => by simp [VLL] at e

theorem VLL.get : ∀ {l r : List AV}, VLL M O κ l r → ∀ (i : Nat) (a : AV), l[i]? = some a → ∃ v, r[i]? = some v ∧ VL M O κ a v
  | [], _, _, i, a, h => by simp at h
  | a :: l, v :: r, e, i, x, h => by
    simp only [VLL] at e
    cases i with
    | zero =>
      simp at h
      subst h
      exact ⟨v, by simp, e.1⟩
    | succ i => simpa using VLL.get e.2 i x (by simpa using h)
  | _ :: _, [], e, _, _, _ => by simp [VLL] at e

theorem VLL.append : ∀ {l l' r r' : List AV}, VLL M O κ l r → VLL M O κ l' r' → VLL M O κ (l ++ l') (r ++ r')
  | [], _, [], _, _, h => by simpa using h
  | a :: l, _, v :: r, _, e, h => by
    simp only [VLL, List.cons_append] at e ⊢
    exact ⟨e.1, VLL.append e.2 h⟩
  | [], _, _ :: _, _, e, _ => by simp [VLL] at e
  | _ :: _, _, [], _, e, _ => by simp [VLL] at e

theorem VLL.drop : ∀ {l r : List AV} (n : Nat), VLL M O κ l r → VLL M O κ (l.drop n) (r.drop n)
  | _, _, 0, e => by simpa using e
  | [], [], _ + 1, e => by simpa using e
  | _ :: l, _ :: r, n + 1, e => by
    simp only [VLL] at e
    simpa using VLL.drop n e.2
  | [], _ :: _, _ + 1, e => by simp [VLL] at e
  | _ :: _, [], _ + 1, e => by simp [VLL] at e

theorem VLL.take : ∀ {l r : List AV} (n : Nat), VLL M O κ l r → VLL M O κ (l.take n) (r.take n)
  | _, _, 0, e => by simp [VLL]
  | [], [], _ + 1, e => by simp [VLL]
  | _ :: l, _ :: r, n + 1, e => by
    simp only [VLL] at e
    simp only [List.take_succ_cons, VLL]
    exact ⟨e.1, VLL.take n e.2⟩
  | [], _ :: _, _ + 1, e => by simp [VLL] at e
  | _ :: _, [], _ + 1, e => by simp [VLL] at e

theorem VLL.same {l r : List AV} (h : VLL M O κ l r) {n : Nat} (hn : n ≤ l.length) : n ≤ r.length := by rw [← h.length]; exact hn

theorem VL.isCell {v a : AV} (h : v.isCell = true) (r : VL M O κ v a) : a.isCell = true := by
  cases v with
  | undef => simp [AV.isCell] at h
  | agg _ => simp [AV.isCell] at h
  | tuple _ => simp [AV.isCell] at h
  | ptr p => cases p <;> simp only [VL] at r <;> first | (subst r; rfl) | (obtain ⟨_, _, rfl⟩ := r; rfl)
  | slice p => cases p <;> simp only [VL] at r; obtain ⟨_, _, rfl⟩ := r; rfl
  | map p => cases p <;> simp only [VL] at r <;> first | (subst r; rfl) | (obtain ⟨_, _, rfl⟩ := r; rfl)
  | func f cs => simp only [VL] at r; obtain ⟨_, rfl, _⟩ := r; rfl
  | list => simp only [VL] at r; rcases r with ⟨_, _, _, rfl⟩ | ⟨_, _, _, _, rfl, _⟩ <;> rfl
  | elem => simp only [VL] at r; obtain ⟨_, _, _, _, _, rfl, _⟩ := r; rfl
  | acc => simp only [VL] at r; obtain ⟨_, _, _, _, rfl, _⟩ := r; rfl
  | _ => simp only [VL] at r; subst r; rfl

theorem VL.cells {v a : AV} {cs : List AV} (h : v.cells? = some cs) (r : VL M O κ v a) : ∃ cs', a.cells? = some cs' ∧ VLL M O κ cs cs' := by
  cases v with
  | undef => simp [AV.cells?] at h
  | tuple _ => simp [AV.cells?] at h
  | agg l =>
    simp only [AV.cells?] at h
    split at h
    case isFalse => cases h
    rename_i hall
    obtain rfl := Option.some.inj h
    simp only [VL] at r
    obtain ⟨cs', rfl, hr⟩ := r
    refine ⟨cs', ?_, hr⟩
    simp only [AV.cells?]
    rw [if_pos]
    rw [List.all_eq_true]
    intro x hx
    obtain ⟨i, hi⟩ := List.mem_iff_getElem?.1 hx
    have hlt : i < l.length := by rw [hr.length]; exact (List.getElem?_eq_some_iff.1 hi).1
    obtain ⟨y, hy, hyx⟩ := hr.get i _ (List.getElem?_eq_getElem hlt)
    rw [hi] at hy
    obtain rfl := Option.some.inj hy
    exact hyx.isCell (List.all_eq_true.1 hall _ (List.getElem_mem hlt))
  | _ =>
    all_goals
      simp only [AV.cells?, Option.some.injEq] at h
      subst h
      have hc := VL.isCell (by rfl) r
      refine ⟨[a], ?_, by simp only [VLL]; exact ⟨r, trivial⟩⟩
      cases a <;> simp_all [AV.cells?, AV.isCell]

end

/-! ### Constants -/

mutual
def plainC : AV → Bool
  | .ptr (some _) | .slice (some _) _ _ _ _ | .map (some _) | .list .. | .elem _ | .acc .. => false
  | .slice none _ l c e => l == 0 && c == 0 && e
  | .func _ cs => plainCL cs
  | .agg cs => plainCL cs
  | .tuple cs => plainCL cs
  | _ => true
def plainCL : List AV → Bool
  | [] => true
  | v :: r => plainC v && plainCL r
end

mutual
theorem VL.const {M : Heap} {O : Nat → Prop} {κ : VI} : ∀ v : AV, plainC v = true → VL M O κ v v
  | .undef, _ => by simp [VL]
  | .bool _, _ => by simp [VL]
  | .int _ _, _ => by simp [VL]
  | .str _, _ => by simp [VL]
  | .ptr none, _ => by simp [VL]
  | .ptr (some _), h => by simp [plainC] at h
  | .slice none s l c e, h => by
    simp only [plainC, Bool.and_eq_true, beq_iff_eq] at h
    simp only [VL]
    exact ⟨⟨h.1.1, h.1.2, h.2⟩, s, by rw [h.1.1, h.1.2, h.2]⟩
  | .slice (some _) _ _ _ _, h => by simp [plainC] at h
  | .map none, _ => by simp [VL]
  | .map (some _), h => by simp [plainC] at h
  | .func f cs, h => by simp only [VL]; exact ⟨cs, rfl, VLL.const cs (by simpa [plainC] using h)⟩
  | .nilFunc, _ => by simp [VL]
  | .agg cs, h => by simp only [VL]; exact ⟨cs, rfl, VLL.const cs (by simpa [plainC] using h)⟩
  | .tuple cs, h => by simp only [VL]; exact ⟨cs, rfl, VLL.const cs (by simpa [plainC] using h)⟩
  | .list .., h => by simp [plainC] at h
  | .elem _, h => by simp [plainC] at h
  | .acc .., h => by simp [plainC] at h
theorem VLL.const {M : Heap} {O : Nat → Prop} {κ : VI} : ∀ l : List AV, plainCL l = true → VLL M O κ l l
  | [], _ => by simp [VLL]
  | v :: r, h => by
    simp only [plainCL, Bool.and_eq_true] at h
    simp only [VLL]
    exact ⟨VL.const v h.1, VLL.const r h.2⟩
end

theorem VLL.reps {M : Heap} {O : Nat → Prop} {κ : VI} {z : List AV} (h : plainCL z = true) : ∀ n, VLL M O κ (reps n z) (reps n z)
  | 0 => by simp [Proofs.Ytlcjmchhnbdepaa.reps, VLL]
  | n + 1 => (VLL.const z h).append (VLL.reps h n)

def AX.okc : AX → Bool
  | .t _ => true
  | .c v => plainC v

def okO : Option AX → Bool
  | none => true
  | some x => x.okc

def POp.okc : POp → Bool
  | .move x => x.okc
  | .pick c a b => c.okc && a.okc && b.okc
  | .build z ps => plainCL z && ps.all fun p => p.2.2.okc
  | .nilCheck x => x.okc
  | .bin _ x y => x.okc && y.okc
  | .eqB _ x y => x.okc && y.okc
  | .eqS _ _ x y => x.okc && y.okc
  | .eqP _ x y => x.okc && y.okc
  | .eqN _ x y => x.okc && y.okc
  | .un _ x => x.okc
  | .cvInt _ x => x.okc
  | .cvStr x => x.okc
  | .mkFunc _ cs => cs.all AX.okc
  | .sliceStr x a b => x.okc && okO a && okO b
  | .slice _ x a b c => x.okc && okO a && okO b && okO c
  | .fieldAddr _ x => x.okc
  | .field _ _ _ x => x.okc
  | .idxArr _ _ x i => x.okc && i.okc
  | .idxSlice _ x i => x.okc && i.okc
  | .index _ _ _ x i => x.okc && i.okc
  | .indexStr x i => x.okc && i.okc
  | .extract x _ => x.okc
  | .len _ x => x.okc
  | .cap x => x.okc
  | .minmax _ xs => xs.all AX.okc

def LOp.okc : LOp → Bool
  | .load _ _ x => x.okc
  | .bytesStr x => x.okc
  | .mapLen x => x.okc
  | .lookup _ _ z x k => plainC z && x.okc && k.okc

def KOp.okc : KOp → Bool
  | .alloc z => plainCL z
  | .box x => x.okc
  | .buildSlice _ _ z ps => plainCL z && ps.all fun p => p.2.okc
  | .makeSlice _ _ z l c => plainCL z && l.okc && c.okc
  | .strBytes x => x.okc
  | .makeMap => true

def NOp.okc : NOp → Bool
  | .store _ a v => a.okc && v.okc
  | .call f xs => f.okc && xs.all AX.okc
  | .append _ _ s x => s.okc && x.okc
  | .appendZ _ _ z s n => plainCL z && s.okc && n.okc
  | .copy _ d s => d.okc && s.okc
  | .clear _ z x => plainCL z && x.okc
  | .mapUpdate _ m k v => m.okc && k.okc && v.okc
  | .mapDelete _ m k => m.okc && k.okc
  | .cvBytes x => x.okc
  | .fail => true

def AOp.okc : AOp → Bool
  | .p o => o.okc
  | .l o => o.okc
  | .k o => o.okc
  | .n o => o.okc

def ACode.okc : ACode → Bool
  | .reg ops => ops.all fun o => o.op.okc
  | .dreg _ ops => ops.all fun d => d.o.op.okc
  | .seq a b => a.okc && b.okc
  | .cond c a b => c.okc && a.okc && b.okc
  | .block _ c => c.okc
  | .loop _ c => c.okc
  | _ => true

end Go.Proofs.Ytlcjmchhnbdepaa
end

section
/- W, third part: the pure operations. -/
set_option linter.all false
set_option linter.unusedSimpArgs false
namespace Go.Proofs.Ytlcjmchhnbdepaa

def AV.scal : AV → Bool
  | .bool _ | .int _ _ | .str _ => true
  | _ => false

section
variable {M : Heap} {O : Nat → Prop} {κ : VI}

theorem VL.scal {v : AV} (h : v.scal = true) : VL M O κ v v := by
  cases v <;> simp [AV.scal] at h <;> simp [VL]

theorem VL.eq {v a : AV} (h : v.scal = true) (r : VL M O κ v a) : a = v := by
  cases v <;> simp [AV.scal] at h <;> simpa [VL] using r

theorem aInts_scal {op : BinOp} {k : IntKind} {x y : Int} {v : AV} (h : aInts op k x y = some v) : v.scal = true := by
  cases op <;> simp only [aInts] at h
  all_goals first | (cases h; rfl) | (cases h; done) | (split at h <;> cases h <;> rfl)

theorem aStrs_scal {op : BinOp} {x y : List UInt8} {v : AV} (h : aStrs op x y = some v) : v.scal = true := by
  cases op <;> simp only [aStrs] at h
  all_goals first | (cases h; rfl) | (cases h; done) | (split at h <;> cases h <;> rfl)

theorem aBin_scal {op : BinOp} {x y v : AV} (h : aBin op x y = some v) : v.scal = true ∧ x.scal = true ∧ y.scal = true := by
  cases x <;> cases y <;> simp only [aBin] at h <;> first | (cases h; done) | skip
  · refine ⟨?_, rfl, rfl⟩
    split at h
    · split at h <;> cases h <;> rfl
    · split at h <;> cases h <;> rfl
    · split at h
      · exact aInts_scal h
      · cases h
  · exact ⟨aStrs_scal h, rfl, rfl⟩

theorem aEqK_rel {k : Kd} {x y x' y' : AV} {b : Bool} (hx : VL M O κ x x') (hy : VL M O κ y y') (h : aEqK k x y = some b) : aEqK k x' y' = some b := by
  have hs : x.scal = true ∧ y.scal = true := by
    cases k <;> cases x <;> simp only [aEqK] at h <;> first | (cases h; done) | (cases y <;> simp only at h <;> first | (cases h; done) | exact ⟨rfl, rfl⟩)
  rw [hx.eq hs.1, hy.eq hs.2]
  exact h

theorem aEqKs_rel : ∀ {ks : List Kd} {l r l' r' : List AV} {b : Bool}, VLL M O κ l l' → VLL M O κ r r' → aEqKs ks l r = some b → aEqKs ks l' r' = some b
  | [], [], [], l', r', b, hl, hr, h => by
    cases l' with
    | cons _ _ => simp [VLL] at hl
    | nil => cases r' with
      | cons _ _ => simp [VLL] at hr
      | nil => exact h
  | k :: ks, a :: l, c :: r, l', r', b, hl, hr, h => by
    cases l' with
    | nil => simp [VLL] at hl
    | cons a' l' =>
      cases r' with
      | nil => simp [VLL] at hr
      | cons c' r' =>
        simp only [VLL] at hl hr
        simp only [aEqKs] at h ⊢
        split at h
        · rename_i x y h1 h2
          rw [aEqK_rel hl.1 hr.1 h1, aEqKs_rel hl.2 hr.2 h2]
          exact h
        · cases h
  | [], [], _ :: _, _, _, _, _, _, h => by simp [aEqKs] at h
  | [], _ :: _, _, _, _, _, _, _, h => by simp [aEqKs] at h
  | _ :: _, [], _, _, _, _, _, _, h => by simp [aEqKs] at h
  | _ :: _, _ :: _, [], _, _, _, _, _, h => by simp [aEqKs] at h

theorem aEqP_rel {x y x' y' : AV} {b : Bool} (hx : VL M O κ x x') (hy : VL M O κ y y') (h : aEqP x y = some b) : aEqP x' y' = some b := by
  unfold aEqP at h
  split at h
  · rename_i c
    simp only [VL] at hx
    subst hx
    cases c with
    | none => simp only [VL] at hy; subst hy; simpa [aEqP] using h
    | some c => simp only [VL] at hy; obtain ⟨j, _, rfl⟩ := hy; simpa [aEqP] using h
  · simp only [VL] at hx hy
    obtain ⟨j, _, rfl⟩ := hx
    subst hy
    simpa [aEqP] using h
  · rename_i c d
    simp only [VL] at hx hy
    obtain ⟨j, h1, rfl⟩ := hx
    obtain ⟨j', h2, rfl⟩ := hy
    split at h
    · rename_i e
      rw [e, h2] at h1
      obtain rfl := Option.some.inj h1
      simpa [aEqP] using h
    · cases h
  · cases h

theorem aBound_rel {v a : AV} {m n : Nat} (r : VL M O κ v a) (h : aBound v m = some n) : aBound a m = some n := by
  cases v <;> simp only [aBound] at h <;> first | (cases h; done) | skip
  simp only [VL] at r
  subst r
  simpa [aBound] using h

theorem aBound_mono {v : AV} {m m' n : Nat} (h : aBound v m = some n) (hm : m ≤ m') : aBound v m' = some n ∧ n ≤ m := by
  cases v <;> simp only [aBound] at h <;> first | (cases h; done) | skip
  split at h
  case isFalse => cases h
  rename_i k i hi
  obtain rfl := Option.some.inj h
  simp only [aBound]
  rw [if_pos (by omega)]
  exact ⟨rfl, by omega⟩

theorem aMinMax_scal {m : Bool} {x y v : AV} (h : aMinMax m x y = some v) : v.scal = true ∧ x.scal = true ∧ y.scal = true := by
  cases x <;> cases y <;> simp only [aMinMax] at h <;> first | (cases h; done) | skip
  split at h <;> cases h <;> exact ⟨rfl, rfl, rfl⟩

theorem aFold_rel {m : Bool} : ∀ {l l' : List AV} {x x' v : AV}, VL M O κ x x' → VLL M O κ l l' → aFold m x l = some v → ∃ a, aFold m x' l' = some a ∧ VL M O κ v a
  | [], l', x, x', v, hx, hl, h => by
    have := hl.length
    cases l' <;> simp at this
    simp only [aFold, Option.some.injEq] at h ⊢
    subst h
    exact ⟨x', rfl, hx⟩
  | y :: l, l', x, x', v, hx, hl, h => by
    cases l' with
    | nil => simp [VLL] at hl
    | cons y' l' =>
      simp only [VLL] at hl
      simp only [aFold] at h ⊢
      obtain ⟨z, h1, h2⟩ := Option.bind_eq_some_iff.1 h
      obtain ⟨s1, s2, s3⟩ := aMinMax_scal h1
      obtain rfl := hx.eq s2
      obtain rfl := hl.1.eq s3
      rw [h1, Option.bind_some]
      exact aFold_rel (VL.scal s1) hl.2 h2

theorem aPart_rel {g : Bool} {off n : Nat} {cs cs' : List AV} {v : AV} (r : VLL M O κ cs cs') (h : aPart g off n cs = some v) : ∃ a, aPart g off n cs' = some a ∧ VL M O κ v a := by
  unfold aPart at h ⊢
  cases g with
  | true =>
    simp only [if_true, Option.some.injEq] at h ⊢
    subst h
    exact ⟨_, rfl, by simp only [VL]; exact ⟨_, rfl, (r.drop off).take n⟩⟩
  | false =>
    simp only [Bool.false_eq_true, if_false] at h ⊢
    exact r.get off v h

theorem aSlice_form {sz : Nat} {a : Option (Nat × Nat)} {sz' len cap : Nat} {ex : Bool} {lo hi mx : Option AX} {v : AV} (h : aSlice sz a sz' len cap ex [] lo hi mx = some v) :
    ∃ l len' cap' ex', v = .slice (aShift a (l * sz)) sz len' cap' ex' ∧ ∀ a' : Option (Nat × Nat), (a = none → a' = none) → aSlice sz a' sz' len cap ex [] lo hi mx = some (.slice (aShift a' (l * sz)) sz len' cap' ex') := by
  unfold aSlice at h
  split at h
  case isFalse => cases h
  rename_i hc
  have hc' : ∀ a' : Option (Nat × Nat), (a = none → a' = none) → (a' = none ∨ sz' = sz) := fun a' ha => hc.imp ha id
  cases mx with
  | none =>
    simp only at h
    obtain ⟨x, h1, h⟩ := Option.bind_eq_some_iff.1 h
    obtain ⟨y, h2, h⟩ := Option.bind_eq_some_iff.1 h
    obtain rfl := Option.some.inj h
    refine ⟨_, _, _, _, rfl, fun a' ha => ?_⟩
    unfold aSlice
    rw [if_pos (hc' a' ha)]
    simp only [h1, h2, Option.bind_some]
  | some mx =>
    simp only at h
    obtain ⟨m, h0, h⟩ := Option.bind_eq_some_iff.1 h
    cases hi with
    | none => cases h
    | some hi =>
      simp only at h
      obtain ⟨x, h1, h⟩ := Option.bind_eq_some_iff.1 h
      obtain ⟨y, h2, h⟩ := Option.bind_eq_some_iff.1 h
      obtain rfl := Option.some.inj h
      refine ⟨_, _, _, _, rfl, fun a' ha => ?_⟩
      unfold aSlice
      rw [if_pos (hc' a' ha)]
      simp only [h0, h1, h2, Option.bind_some]

theorem drop_take_sub {c : List AV} {o n l m : Nat} (h : l + m ≤ n) : ((((c.drop o).take n).drop l).take m) = ((c.drop (o + l)).take m) := by
  rw [List.drop_take, List.take_take, List.drop_drop, Nat.min_eq_left (by omega)]

theorem list_part {sz len h l : Nat} {cs : List AV} {b o : Nat} {ex1 : Bool} {cap1 : Nat} {ex2 : Bool} (hl : l ≤ h) (hh : h ≤ len) (hcs : cs.length = len * sz)
    (hc : len ≠ 0 → ∃ c ro sl, M.get b = some (.cells c ro sl) ∧ ¬ O b ∧ b < M.next ∧ o + len * sz ≤ c.length ∧ VLL M O VI.none cs ((c.drop o).take (len * sz))) (h1 : h - l ≤ cap1) (h2 : ex2 = true → ex1 = true ∧ cap1 = h - l) :
    VL M O κ (.list sz (h - l) ((cs.drop (l * sz)).take ((h - l) * sz)) ex2) (.slice (some (b, o + l * sz)) sz (h - l) cap1 ex1) := by
  have e : l * sz + (h - l) * sz = h * sz := by rw [← Nat.add_mul]; congr 1; omega
  have e2 : h * sz ≤ len * sz := Nat.mul_le_mul_right _ hh
  simp only [VL]
  refine .inr ⟨b, _, cap1, ex1, rfl, h1, h2, ?_, fun hne => ?_⟩
  · rw [List.length_take, List.length_drop, hcs]
    omega
  · obtain ⟨c, ro, sl, g1, g2, g3, g4, g5⟩ := hc (by omega)
    refine ⟨c, ro, sl, g1, g2, g3, by omega, ?_⟩
    have := (g5.drop (l * sz)).take ((h - l) * sz)
    rwa [drop_take_sub (by omega)] at this

theorem cTake_eq : ∀ {n : Nat} {l r : List AV}, cTake n l = some r → n ≤ l.length ∧ r = l.take n
  | 0, l, r, h => by simp only [cTake, Option.some.injEq] at h; subst h; simp
  | n + 1, [], r, h => by simp [cTake] at h
  | n + 1, c :: l, r, h => by
    simp only [cTake] at h
    split at h
    case h_2 => cases h
    rename_i q hq
    obtain rfl := Option.some.inj h
    obtain ⟨h1, h2⟩ := cTake_eq hq
    exact ⟨by simp; omega, by simp [h2]⟩

theorem cAt_eq : ∀ {l : List AV} {i : Nat}, cAt l i = l[i]?
  | [], i => by simp [cAt]
  | v :: _, 0 => by simp [cAt]
  | _ :: r, i + 1 => by simp [cAt, cAt_eq (l := r)]

theorem cPart_eq {g : Bool} {off n : Nat} {cs : List AV} {v : AV} (h : cPart g off n cs = some v) : aPart g off n cs = some v ∧ (g = true → n ≤ (cs.drop off).length) := by
  unfold cPart at h
  cases g with
  | true =>
    simp only at h
    split at h
    case h_2 => cases h
    rename_i l hl
    obtain rfl := Option.some.inj h
    obtain ⟨h1, rfl⟩ := cTake_eq hl
    exact ⟨by simp [aPart], fun _ => h1⟩
  | false =>
    simp only at h
    rw [cAt_eq] at h
    exact ⟨by simpa [aPart] using h, fun h => by cases h⟩

theorem acc_part {b off sz n cap m L l y cap' : Nat} {ex ex' : Bool} {p : Option (Nat × Nat)} (hn : n ≤ cap) (hnp : p = none → cap = 0 ∧ ex = true) (hd : κ.dim b = some (m, L)) (hm : off + n * sz ≤ m)
    (hx : (∃ j, κ b = some j ∧ ((p = some (j, off) ∧ off + cap * sz ≤ L) ∨ (n = 0 ∧ cap = 0 ∧ ex = true))) ∨ (κ.sol b = true ∧ n = 0 ∧ cap = 0 ∧ ex = true ∧ m = 0))
    (h1 : l ≤ y) (h2 : y ≤ n) (h3 : y - l ≤ cap') (h4 : cap' ≤ cap - l) (h5 : cap = 0 → ex = true → ex' = true) :
    VL M O κ (.acc b (off + l * sz) sz (y - l) false) (.slice (aShift p (l * sz)) sz (y - l) cap' ex') := by
  have e1 : l * sz + (y - l) * sz = y * sz := by rw [← Nat.add_mul]; congr 1; omega
  have e2 : y * sz ≤ n * sz := Nat.mul_le_mul_right _ h2
  have e3 : l * sz + cap' * sz ≤ cap * sz := by rw [← Nat.add_mul]; exact Nat.mul_le_mul_right _ (by omega)
  simp only [VL]
  refine ⟨_, _, _, _, rfl, h3, fun hp => ?_, fun _ => rfl, m, L, hd, by omega, (fun h => by cases h), ?_⟩
  · cases p with
    | none => exact ⟨by have := (hnp rfl).1; omega, h5 (hnp rfl).1 (hnp rfl).2⟩
    | some p => simp [aShift] at hp
  · rcases hx with ⟨j, g1, g2⟩ | ⟨g1, g2, g3, g4, g5⟩
    · refine .inl ⟨j, g1, ?_⟩
      rcases g2 with ⟨rfl, g2⟩ | ⟨g2, g3, g4⟩
      · exact .inl ⟨by simp [aShift], by omega⟩
      · exact .inr ⟨by omega, by omega, h5 g3 g4⟩
    · exact .inr ⟨g1, by omega, by omega, h5 g3 g4, g5⟩

section
variable {ρ σ : Nat → AV} (h : ∀ t, VL M O κ (ρ t) (σ t))
include h

theorem ev_rel {x : AX} (hc : x.okc = true) : VL M O κ ((x.sub ρ).ev []) ((x.sub σ).ev []) := by
  cases x with
  | t n => exact h n
  | c v => exact VL.const v hc

theorem evs_rel : ∀ {xs : List AX}, xs.all AX.okc = true → VLL M O κ ((xs.map (AX.sub ρ)).map (AX.ev [])) ((xs.map (AX.sub σ)).map (AX.ev []))
  | [], _ => by simp [VLL]
  | x :: xs, hc => by
    simp only [List.all_cons, Bool.and_eq_true] at hc
    simp only [List.map_cons, VLL]
    exact ⟨ev_rel h hc.1, evs_rel hc.2⟩

theorem boundO_rel {x : Option AX} (hc : okO x = true) {other m n : Nat} (hb : aBoundO [] (AX.subO ρ x) other m = some n) : aBoundO [] (AX.subO σ x) other m = some n := by
  cases x with
  | none => exact hb
  | some x => exact aBound_rel (ev_rel h hc) hb

theorem aFill_rel : ∀ {ps : List (Nat × Nat × AX)} {cs cs' l : List AV}, (ps.all fun p => p.2.2.okc) = true → VLL M O κ cs cs' →
    aFill cs (ps.map fun p => (p.1, p.2.1, (p.2.2.sub ρ).ev [])) = some l → ∃ l', aFill cs' (ps.map fun p => (p.1, p.2.1, (p.2.2.sub σ).ev [])) = some l' ∧ VLL M O κ l l'
  | [], cs, cs', l, _, hr, hf => by
    simp only [List.map_nil, aFill, Option.some.injEq] at hf ⊢
    subst hf
    exact ⟨cs', rfl, hr⟩
  | p :: ps, cs, cs', l, hc, hr, hf => by
    simp only [List.all_cons, Bool.and_eq_true] at hc
    simp only [List.map_cons, aFill] at hf ⊢
    split at hf
    case h_2 => cases hf
    rename_i x hx
    split at hf
    case isFalse => cases hf
    rename_i hle
    obtain ⟨x', hx', hxr⟩ := (ev_rel h hc.1).cells hx
    rw [hx']
    simp only
    rw [if_pos (by rw [← hxr.length, ← hr.length]; exact hle)]
    refine aFill_rel hc.2 ?_ hf
    exact ((hr.take _).append hxr).append (hr.drop _)

theorem wP_ok {o : POp} (hc : o.okc = true) {v : AV} (hv : wP (o.sub ρ) = some v) : ∃ a, aP (o.sub σ) [] = some a ∧ VL M O κ v a := by
  cases o with
  | move x =>
    have hx := ev_rel h hc
    simp only [POp.sub, wP, aP, Option.some.injEq] at hv ⊢
    subst hv
    exact ⟨_, rfl, hx⟩
  | pick c a b =>
    simp only [POp.okc, Bool.and_eq_true] at hc
    have h1 := ev_rel h hc.1.1
    have h2 := ev_rel h hc.1.2
    have h3 := ev_rel h hc.2
    simp only [POp.sub, wP, aP] at hv ⊢
    generalize (c.sub ρ).ev [] = C at *
    cases C <;> (try simp only at hv) <;> first | (cases hv; done) | skip
    rename_i w
    simp only [VL] at h1
    rw [h1]
    cases w <;> simp only [Option.some.injEq] at hv ⊢ <;> subst hv
    · exact ⟨_, rfl, h3⟩
    · exact ⟨_, rfl, h2⟩
  | build z ps =>
    simp only [POp.okc, Bool.and_eq_true] at hc
    simp only [POp.sub, wP, aP, List.map_map] at hv ⊢
    obtain ⟨l, h1, rfl⟩ := Option.map_eq_some_iff.1 hv
    obtain ⟨l', h2, h3⟩ := aFill_rel h hc.2 (VLL.const z hc.1) h1
    refine ⟨.agg l', ?_, by simp only [VL]; exact ⟨l', rfl, h3⟩⟩
    rw [Option.map_eq_some_iff]
    exact ⟨l', h2, rfl⟩
  | nilCheck x =>
    have hx := ev_rel h hc
    simp only [POp.sub, wP, aP] at hv ⊢
    generalize (x.sub ρ).ev [] = X at *
    generalize (x.sub σ).ev [] = X' at *
    cases X with
    | ptr p =>
      cases p with
      | none => simp at hv
      | some q =>
        simp only [Option.some.injEq] at hv
        subst hv
        simp only [VL] at hx
        obtain ⟨j, h1, rfl⟩ := hx
        exact ⟨_, rfl, by simp only [VL]; exact ⟨j, h1, rfl⟩⟩
    | func f cs =>
      simp only [Option.some.injEq] at hv
      subst hv
      simp only [VL] at hx
      obtain ⟨cs', rfl, h1⟩ := hx
      exact ⟨_, rfl, by simp only [VL]; exact ⟨cs', rfl, h1⟩⟩
    | elem cs =>
      simp only [Option.some.injEq] at hv
      subst hv
      have hx' := hx
      simp only [VL] at hx
      obtain ⟨b, o, c, ro, sl, rfl, _⟩ := hx
      exact ⟨_, rfl, hx'⟩
    | _ => simp at hv
  | bin op x y =>
    simp only [POp.okc, Bool.and_eq_true] at hc
    have hx := ev_rel h hc.1
    have hy := ev_rel h hc.2
    simp only [POp.sub, wP, aP] at hv ⊢
    obtain ⟨s1, s2, s3⟩ := aBin_scal hv
    rw [hx.eq s2, hy.eq s3]
    exact ⟨v, hv, VL.scal s1⟩
  | eqB neg x y =>
    simp only [POp.okc, Bool.and_eq_true] at hc
    have hx := ev_rel h hc.1
    have hy := ev_rel h hc.2
    simp only [POp.sub, wP, aP] at hv ⊢
    obtain ⟨b, h1, rfl⟩ := Option.map_eq_some_iff.1 hv
    rw [aEqK_rel hx hy h1]
    exact ⟨_, rfl, by simp [VL]⟩
  | eqS neg ks x y =>
    simp only [POp.okc, Bool.and_eq_true] at hc
    have hx := ev_rel h hc.1
    have hy := ev_rel h hc.2
    simp only [POp.sub, wP, aP] at hv ⊢
    generalize (x.sub ρ).ev [] = X at *
    generalize (y.sub ρ).ev [] = Y at *
    cases X <;> (try simp only at hv) <;> first | (cases hv; done) | skip
    cases Y <;> (try simp only at hv) <;> first | (cases hv; done) | skip
    simp only [VL] at hx hy
    obtain ⟨l', e1, hl⟩ := hx
    obtain ⟨r', e2, hr⟩ := hy
    obtain ⟨b, h1, rfl⟩ := Option.map_eq_some_iff.1 hv
    rw [e1, e2]
    simp only [aEqKs_rel hl hr h1]
    exact ⟨_, rfl, by simp [VL]⟩
  | eqP neg x y =>
    simp only [POp.okc, Bool.and_eq_true] at hc
    have hx := ev_rel h hc.1
    have hy := ev_rel h hc.2
    simp only [POp.sub, wP, aP] at hv ⊢
    obtain ⟨b, h1, rfl⟩ := Option.map_eq_some_iff.1 hv
    rw [aEqP_rel hx hy h1]
    exact ⟨_, rfl, by simp [VL]⟩
  | eqN neg x y =>
    simp only [POp.okc, Bool.and_eq_true] at hc
    have hx := ev_rel h hc.1
    have hy := ev_rel h hc.2
    simp only [POp.sub, wP, aP] at hv ⊢
    generalize (x.sub ρ).ev [] = X at *
    generalize (y.sub ρ).ev [] = Y at *
    generalize (x.sub σ).ev [] = X' at *
    generalize (y.sub σ).ev [] = Y' at *
    split at hv
    · simp only [VL] at hx hy
      obtain ⟨b, o, cap, ex', rfl, _⟩ := hx.resolve_left (fun h => by cases h.1)
      obtain ⟨_, s', rfl⟩ := hy
      simp only [Option.some.injEq] at hv
      subst hv
      exact ⟨.bool neg, by simp [aEqN], by simp [VL]⟩
    · simp only [VL] at hx hy
      obtain ⟨b, o, cap, ex', rfl, _⟩ := hy.resolve_left (fun h => by cases h.1)
      obtain ⟨_, s', rfl⟩ := hx
      simp only [Option.some.injEq] at hv
      subst hv
      exact ⟨.bool neg, by simp [aEqN], by simp [VL]⟩
    · simp only [VL] at hx hy
      obtain ⟨_, s', rfl⟩ := hx
      obtain ⟨_, s'', rfl⟩ := hy
      simp only [Option.some.injEq] at hv
      subst hv
      exact ⟨.bool (!neg), by cases neg <;> simp [aEqN], by simp [VL]⟩
    · cases hv
  | un op x =>
    have hx := ev_rel h hc
    simp only [POp.sub, wP, aP] at hv ⊢
    have : ((x.sub ρ).ev []).scal = true ∧ v.scal = true := by
      generalize (x.sub ρ).ev [] = X at *
      cases X <;> cases op <;> simp only [aUn] at hv <;> first | (cases hv; done) | (cases hv; exact ⟨rfl, rfl⟩)
    rw [hx.eq this.1]
    exact ⟨v, hv, VL.scal this.2⟩
  | cvInt k x =>
    have hx := ev_rel h hc
    simp only [POp.sub, wP, aP] at hv ⊢
    generalize (x.sub ρ).ev [] = X at *
    cases X <;> (try simp only at hv) <;> first | (cases hv; done) | skip
    obtain rfl := Option.some.inj hv
    rw [hx.eq rfl]
    exact ⟨_, rfl, by simp [VL]⟩
  | cvStr x =>
    have hx := ev_rel h hc
    simp only [POp.sub, wP, aP] at hv ⊢
    generalize (x.sub ρ).ev [] = X at *
    cases X <;> (try simp only at hv) <;> first | (cases hv; done) | skip
    obtain rfl := Option.some.inj hv
    rw [hx.eq rfl]
    exact ⟨_, rfl, by simp [VL]⟩
  | mkFunc f cs =>
    simp only [POp.sub, wP, aP, Option.some.injEq] at hv ⊢
    subst hv
    exact ⟨_, rfl, by simp only [VL]; exact ⟨_, rfl, evs_rel h hc⟩⟩
  | sliceStr x lo hi =>
    simp only [POp.okc, Bool.and_eq_true] at hc
    have hx := ev_rel h hc.1.1
    simp only [POp.sub, wP, aP] at hv ⊢
    generalize (x.sub ρ).ev [] = X at *
    cases X <;> (try simp only at hv) <;> first | (cases hv; done) | skip
    rw [hx.eq rfl]
    simp only [aSliceStr] at hv ⊢
    obtain ⟨a, h1, hv⟩ := Option.bind_eq_some_iff.1 hv
    obtain ⟨b, h2, hv⟩ := Option.bind_eq_some_iff.1 hv
    obtain rfl := Option.some.inj hv
    rw [boundO_rel h hc.2 h1, Option.bind_some, boundO_rel h hc.1.2 h2, Option.bind_some]
    exact ⟨_, rfl, by simp [VL]⟩
  | slice sz x lo hi mx =>
    simp only [POp.okc, Bool.and_eq_true] at hc
    obtain ⟨⟨⟨cx, clo⟩, chi⟩, cmx⟩ := hc
    have hx := ev_rel h cx
    simp only [POp.sub, wP, aP] at hv ⊢
    generalize (x.sub ρ).ev [] = X at *
    generalize (x.sub σ).ev [] = X' at *
    have tr : ∀ {a : Option (Nat × Nat)} {sz' len cap : Nat} {ex : Bool} {w : AV}, aSlice sz a sz' len cap ex [] (AX.subO ρ lo) (AX.subO ρ hi) (AX.subO ρ mx) = some w → aSlice sz a sz' len cap ex [] (AX.subO σ lo) (AX.subO σ hi) (AX.subO σ mx) = some w := by
      intro a sz' len cap ex w hw
      unfold aSlice at hw ⊢
      split at hw
      case isFalse => cases hw
      rename_i hcond
      rw [if_pos hcond]
      cases mx with
      | none =>
        simp only [AX.subO, Option.map_none] at hw ⊢
        obtain ⟨a, h1, hw⟩ := Option.bind_eq_some_iff.1 hw
        obtain ⟨b, h2, hw⟩ := Option.bind_eq_some_iff.1 hw
        have := boundO_rel h chi h1
        simp only [AX.subO] at this
        rw [this, Option.bind_some]
        have := boundO_rel h clo h2
        simp only [AX.subO] at this
        rw [this, Option.bind_some]
        exact hw
      | some mx =>
        cases hi with
        | none =>
          simp only [AX.subO, Option.map_none, Option.map_some] at hw
          obtain ⟨m, _, hw⟩ := Option.bind_eq_some_iff.1 hw
          cases hw
        | some hi =>
          simp only [AX.subO, Option.map_some] at hw ⊢
          obtain ⟨m, h0, hw⟩ := Option.bind_eq_some_iff.1 hw
          obtain ⟨a, h1, hw⟩ := Option.bind_eq_some_iff.1 hw
          obtain ⟨b, h2, hw⟩ := Option.bind_eq_some_iff.1 hw
          have := boundO_rel h cmx h0
          simp only [AX.subO, Option.map_some] at this
          rw [this, Option.bind_some]
          have := boundO_rel h chi h1
          simp only [AX.subO, Option.map_some] at this
          rw [this, Option.bind_some]
          have := boundO_rel h clo h2
          simp only [AX.subO] at this
          rw [this, Option.bind_some]
          exact hw
    cases X with
    | list sz' len cs ex =>
      simp only [VL] at hx
      simp only [vSlice] at hv
      split at hv
      case isFalse => cases hv
      rename_i he
      subst he
      rcases hx with ⟨rfl, rfl, s', rfl⟩ | ⟨b, o, cap, ex', rfl, h1, h2, h3, h4⟩
      · have fin : ∀ w, aSlice sz' none s' 0 0 true [] (AX.subO ρ lo) (AX.subO ρ hi) (AX.subO ρ mx) = some w → VL M O κ v w → ∃ a, aSlice sz' none s' 0 0 true [] (AX.subO σ lo) (AX.subO σ hi) (AX.subO σ mx) = some a ∧ VL M O κ v a :=
          fun w h1 h2 => ⟨w, tr h1, h2⟩
        cases mx with
        | none =>
          simp only [AX.subO, Option.map_none] at hv
          obtain ⟨y, g1, hv⟩ := Option.bind_eq_some_iff.1 hv
          obtain ⟨l, g2, hv⟩ := Option.bind_eq_some_iff.1 hv
          obtain rfl := Option.some.inj hv
          have gy : y = 0 := by
            cases hi with
            | none => simpa [aBoundO] using g1.symm
            | some hi => have := (aBound_mono g1 (Nat.le_refl _)).2; omega
          subst gy
          have gl : l = 0 := by
            cases lo with
            | none => simpa [aBoundO] using g2.symm
            | some lo => have := (aBound_mono g2 (Nat.le_refl _)).2; omega
          subst gl
          refine fin (.slice none sz' 0 0 true) ?_ ?_
          · unfold aSlice
            simp only [AX.subO, true_or, if_true, Option.map_none, aShift]
            rw [g1, Option.bind_some, g2]
            rfl
          · simp only [VL]
            exact .inl (by simp)
        | some mx =>
          cases hi with
          | none =>
            simp only [AX.subO, Option.map_none, Option.map_some] at hv
            obtain ⟨m, _, hv⟩ := Option.bind_eq_some_iff.1 hv
            cases hv
          | some hi =>
            simp only [AX.subO, Option.map_some] at hv
            obtain ⟨m, g0, hv⟩ := Option.bind_eq_some_iff.1 hv
            obtain ⟨y, g1, hv⟩ := Option.bind_eq_some_iff.1 hv
            obtain ⟨l, g2, hv⟩ := Option.bind_eq_some_iff.1 hv
            obtain rfl := Option.some.inj hv
            have gm := (aBound_mono g0 (Nat.le_refl _)).2
            obtain rfl : m = 0 := by omega
            have gy := (aBound_mono g1 (Nat.le_refl _)).2
            obtain rfl : y = 0 := by omega
            have gl : l = 0 := by
              cases lo with
              | none => simpa [aBoundO] using g2.symm
              | some lo => have := (aBound_mono g2 (Nat.le_refl _)).2; omega
            subst gl
            refine fin (.slice none sz' 0 0 true) ?_ ?_
            · unfold aSlice
              simp only [AX.subO, true_or, if_true, Option.map_some, aShift]
              rw [g0, Option.bind_some, g1, Option.bind_some, g2]
              rfl
            · simp only [VL]
              exact .inl (by simp)
      simp only
      cases mx with
      | none =>
        simp only [AX.subO, Option.map_none] at hv
        obtain ⟨y, g1, hv⟩ := Option.bind_eq_some_iff.1 hv
        obtain ⟨l, g2, hv⟩ := Option.bind_eq_some_iff.1 hv
        obtain rfl := Option.some.inj hv
        have gy : aBoundO [] (AX.subO ρ hi) len cap = some y ∧ y ≤ len := by
          cases hi with
          | none =>
            simp only [aBoundO, Option.map_none, AX.subO, Option.some.injEq] at g1 ⊢
            omega
          | some hi => exact aBound_mono g1 h1
        have gl : l ≤ y := by
          cases lo with
          | none => simp only [aBoundO, Option.map_none, Option.some.injEq] at g2; omega
          | some lo => exact (aBound_mono g2 (Nat.le_refl _)).2
        refine ⟨_, tr (w := .slice (some (b, o + l * sz')) sz' (y - l) (cap - l) ex') ?_, ?_⟩
        · unfold aSlice
          simp only [AX.subO, or_true, if_true, Option.map_none, aShift, Option.map_some]
          rw [show aBoundO [] (hi.map (AX.sub ρ)) len cap = some y from gy.1, Option.bind_some, g2, Option.bind_some]
        · exact list_part gl gy.2 h3 h4 (by omega) fun he => by cases he
      | some mx =>
        cases hi with
        | none =>
          simp only [AX.subO, Option.map_none, Option.map_some] at hv
          obtain ⟨m, _, hv⟩ := Option.bind_eq_some_iff.1 hv
          cases hv
        | some hi =>
          simp only [AX.subO, Option.map_some] at hv
          obtain ⟨m, g0, hv⟩ := Option.bind_eq_some_iff.1 hv
          obtain ⟨y, g1, hv⟩ := Option.bind_eq_some_iff.1 hv
          obtain ⟨l, g2, hv⟩ := Option.bind_eq_some_iff.1 hv
          obtain rfl := Option.some.inj hv
          obtain ⟨m1, m2⟩ := aBound_mono g0 h1
          obtain ⟨_, y2⟩ := aBound_mono g1 (Nat.le_refl _)
          have gl : l ≤ y := by
            cases lo with
            | none => simp only [aBoundO, Option.map_none, Option.some.injEq] at g2; omega
            | some lo => exact (aBound_mono g2 (Nat.le_refl _)).2
          refine ⟨_, tr (w := .slice (some (b, o + l * sz')) sz' (y - l) (m - l) true) ?_, ?_⟩
          · unfold aSlice
            simp only [AX.subO, or_true, if_true, Option.map_some, aShift]
            rw [show aBoundO [] (some (mx.sub ρ)) cap cap = some m from m1, Option.bind_some, g1, Option.bind_some, g2, Option.bind_some]
          · exact list_part gl (by omega) h3 h4 (by omega) fun he => by cases he
    | acc b off sz' n w =>
      simp only [VL] at hx
      obtain ⟨p, s', cap, ex, rfl, hn, hnp, hns, m, L, hd, hm, hw, hx⟩ := hx
      have hz : p = none ∨ s' = sz' := by
        cases p with
        | none => exact .inl rfl
        | some p => exact .inr (hns (by simp))
      simp only at hv
      cases mx with
      | none =>
        cases lo with
        | none =>
          cases hi with
          | none =>
            simp only [AX.subO, Option.map_none, vSliceA] at hv
            split at hv
            case isFalse => cases hv
            rename_i e
            subst e
            obtain rfl := Option.some.inj hv
            refine ⟨_, tr (w := .slice (aShift p (0 * sz')) sz' (n - 0) (cap - 0) ex) ?_, ?_⟩
            · unfold aSlice
              rw [if_pos hz]
              rfl
            · have : aShift p (0 * sz') = p := by cases p <;> simp [aShift]
              rw [this]
              simp only [VL]
              exact ⟨_, _, _, _, rfl, hn, hnp, fun _ => rfl, m, L, hd, hm, hw, hx⟩
          | some hi =>
            simp only [AX.subO, Option.map_none, Option.map_some, vSliceA] at hv
            split at hv
            case isFalse => cases hv
            rename_i e
            subst e
            obtain ⟨y, g1, hv⟩ := Option.bind_eq_some_iff.1 hv
            obtain ⟨l, g2, hv⟩ := Option.bind_eq_some_iff.1 hv
            obtain rfl := Option.some.inj hv
            have gy := aBound_mono g1 hn
            have gl : l ≤ y := by simp only [aBoundO, Option.some.injEq] at g2; omega
            refine ⟨_, tr (w := .slice (aShift p (l * sz')) sz' (y - l) (cap - l) ex) ?_, acc_part hn hnp hd hm hx gl gy.2 (by omega) (by omega) (fun _ h => h)⟩
            unfold aSlice
            rw [if_pos hz]
            simp only [AX.subO, Option.map_none, Option.map_some]
            rw [show aBoundO [] (some (hi.sub ρ)) n cap = some y from gy.1, Option.bind_some, g2, Option.bind_some]
        | some lo =>
          simp only [AX.subO, Option.map_none, Option.map_some, vSliceA] at hv
          split at hv
          case isFalse => cases hv
          rename_i e
          subst e
          obtain ⟨y, g1, hv⟩ := Option.bind_eq_some_iff.1 hv
          obtain ⟨l, g2, hv⟩ := Option.bind_eq_some_iff.1 hv
          obtain rfl := Option.some.inj hv
          have gy : aBoundO [] (AX.subO ρ hi) n cap = some y ∧ y ≤ n := by
            cases hi with
            | none =>
              simp only [aBoundO, Option.map_none, AX.subO, Option.some.injEq] at g1 ⊢
              omega
            | some hi => exact aBound_mono g1 hn
          have gl : l ≤ y := (aBound_mono g2 (Nat.le_refl _)).2
          refine ⟨_, tr (w := .slice (aShift p (l * sz')) sz' (y - l) (cap - l) ex) ?_, acc_part hn hnp hd hm hx gl gy.2 (by omega) (by omega) (fun _ h => h)⟩
          unfold aSlice
          rw [if_pos hz]
          simp only [AX.subO, Option.map_none, Option.map_some]
          rw [show aBoundO [] (hi.map (AX.sub ρ)) n cap = some y from gy.1, Option.bind_some, g2, Option.bind_some]
      | some mx =>
        cases hi with
        | none => cases lo <;> simp [AX.subO, vSliceA] at hv
        | some hi =>
          have hv' : (if sz' = sz then (aBoundO [] (some (mx.sub ρ)) n n).bind fun m => (aBoundO [] (some (hi.sub ρ)) n m).bind fun h => (aBoundO [] (AX.subO ρ lo) 0 h).bind fun l => some (AV.acc b (off + l * sz) sz (h - l) false) else none) = some v := by
            cases lo <;> simpa only [AX.subO, Option.map_none, Option.map_some, vSliceA] using hv
          clear hv
          split at hv'
          case isFalse => cases hv'
          rename_i e
          subst e
          obtain ⟨m', g0, hv⟩ := Option.bind_eq_some_iff.1 hv'
          obtain ⟨y, g1, hv⟩ := Option.bind_eq_some_iff.1 hv
          obtain ⟨l, g2, hv⟩ := Option.bind_eq_some_iff.1 hv
          obtain rfl := Option.some.inj hv
          obtain ⟨m1, m2⟩ := aBound_mono g0 hn
          obtain ⟨_, y2⟩ := aBound_mono g1 (Nat.le_refl _)
          have gl : l ≤ y := by
            cases lo with
            | none => simp only [aBoundO, AX.subO, Option.map_none, Option.some.injEq] at g2; omega
            | some lo => exact (aBound_mono g2 (Nat.le_refl _)).2
          refine ⟨_, tr (w := .slice (aShift p (l * sz')) sz' (y - l) (m' - l) true) ?_, acc_part hn hnp hd hm hx gl (by omega) (by omega) (by omega) (fun _ _ => rfl)⟩
          unfold aSlice
          rw [if_pos hz]
          simp only [AX.subO, Option.map_none, Option.map_some]
          rw [show aBoundO [] (some (mx.sub ρ)) cap cap = some m' from m1, Option.bind_some, g1, Option.bind_some]
          simp only [AX.subO] at g2
          rw [g2]
          rfl
    | _ => simp at hv
  | fieldAddr off x =>
    have hx := ev_rel h hc
    simp only [POp.sub, wP, aP] at hv ⊢
    generalize (x.sub ρ).ev [] = X at *
    generalize (x.sub σ).ev [] = X' at *
    cases X with
    | ptr p =>
      cases p with
      | none => simp at hv
      | some q =>
        simp only [Option.some.injEq] at hv
        subst hv
        simp only [VL] at hx
        obtain ⟨j, h1, rfl⟩ := hx
        exact ⟨_, rfl, by simp only [VL]; exact ⟨j, h1, rfl⟩⟩
    | elem cs =>
      simp only [Option.some.injEq] at hv
      subst hv
      simp only [VL] at hx
      obtain ⟨b, o, c, ro, sl, rfl, g1, g2, g3, g4⟩ := hx
      refine ⟨_, rfl, ?_⟩
      simp only [VL]
      refine ⟨b, _, c, ro, sl, rfl, g1, g2, g3, ?_⟩
      have := g4.drop off
      rwa [List.drop_take, List.drop_drop, ← List.length_drop] at this
    | _ => simp at hv
  | field g off n x =>
    have hx := ev_rel h hc
    simp only [POp.sub, wP, aP] at hv ⊢
    generalize (x.sub ρ).ev [] = X at *
    generalize (x.sub σ).ev [] = X' at *
    cases X <;> (try simp only at hv) <;> first | (cases hv; done) | skip
    simp only [VL] at hx
    obtain ⟨l', rfl, hl⟩ := hx
    exact aPart_rel hl (cPart_eq hv).1
  | idxArr n sz x i =>
    simp only [POp.okc, Bool.and_eq_true] at hc
    have hx := ev_rel h hc.1
    have hi := ev_rel h hc.2
    simp only [POp.sub, wP, aP] at hv ⊢
    generalize (x.sub ρ).ev [] = X at *
    generalize (x.sub σ).ev [] = X' at *
    generalize (i.sub ρ).ev [] = I at *
    cases X with
    | ptr p =>
      cases p with
      | none => simp at hv
      | some q =>
        cases I <;> (try simp only at hv) <;> first | (cases hv; done) | skip
        rw [hi.eq rfl]
        split at hv
        case isFalse => cases hv
        rename_i hlt
        obtain rfl := Option.some.inj hv
        simp only [VL] at hx
        obtain ⟨j, h1, rfl⟩ := hx
        simp only
        rw [if_pos hlt]
        exact ⟨_, rfl, by simp only [VL]; exact ⟨j, h1, rfl⟩⟩
    | elem cs =>
      cases I <;> (try simp only at hv) <;> first | (cases hv; done) | skip
      rw [hi.eq rfl]
      split at hv
      case isFalse => cases hv
      rename_i hlt
      obtain rfl := Option.some.inj hv
      simp only [VL] at hx
      obtain ⟨b, o, c, ro, sl, rfl, g1, g2, g3, g4⟩ := hx
      simp only
      rw [if_pos hlt]
      refine ⟨_, rfl, ?_⟩
      simp only [VL]
      refine ⟨b, _, c, ro, sl, rfl, g1, g2, g3, ?_⟩
      rename_i k z
      have := g4.drop (z.toNat * sz)
      rwa [List.drop_take, List.drop_drop, ← List.length_drop] at this
    | _ => simp at hv
  | idxSlice sz x i =>
    simp only [POp.okc, Bool.and_eq_true] at hc
    have hx := ev_rel h hc.1
    have hi := ev_rel h hc.2
    simp only [POp.sub, wP, aP] at hv ⊢
    generalize (x.sub ρ).ev [] = X at *
    generalize (x.sub σ).ev [] = X' at *
    generalize (i.sub ρ).ev [] = I at *
    cases X with
    | list sz' len cs ex =>
      cases I <;> (try simp only at hv) <;> first | (cases hv; done) | skip
      rename_i k z
      rw [hi.eq rfl]
      split at hv
      case isFalse => cases hv
      rename_i hlt
      obtain rfl := Option.some.inj hv
      simp only [VL] at hx
      obtain ⟨b, o, cap, ex', rfl, q1, q2, q3, q4⟩ := hx.resolve_left (fun h => by have := h.1; omega)
      simp only
      rw [if_pos hlt]
      refine ⟨_, rfl, ?_⟩
      obtain ⟨c, ro, sl, g1, g2, g3, g4, g5⟩ := q4 (by omega)
      simp only [VL]
      refine ⟨b, _, c, ro, sl, rfl, g1, g2, g3, ?_⟩
      have := g5.drop (z.toNat * sz)
      rwa [← q3, List.drop_take, List.drop_drop, ← List.length_drop] at this
    | acc b off sz' n w =>
      cases I <;> (try simp only at hv) <;> first | (cases hv; done) | skip
      rename_i k z
      rw [hi.eq rfl]
      split at hv
      case isFalse => cases hv
      rename_i hlt
      obtain rfl := Option.some.inj hv
      simp only [VL] at hx
      obtain ⟨p, s', cap, ex, rfl, hn, hnp, hns, m, L, hd, hm, hw, hx⟩ := hx
      obtain ⟨j, g1, g2⟩ := hx.resolve_right (fun h => by have := h.2.1; omega)
      obtain ⟨hps, _⟩ := g2.resolve_right (fun h => by have := h.1; omega)
      subst hps
      obtain rfl := hns (by simp)
      simp only
      rw [if_pos hlt]
      exact ⟨_, rfl, by simp only [VL]; exact ⟨j, g1, rfl⟩⟩
    | _ => simp at hv
  | index g n sz x i =>
    simp only [POp.okc, Bool.and_eq_true] at hc
    have hx := ev_rel h hc.1
    have hi := ev_rel h hc.2
    simp only [POp.sub, wP, aP] at hv ⊢
    generalize (x.sub ρ).ev [] = X at *
    generalize (x.sub σ).ev [] = X' at *
    generalize (i.sub ρ).ev [] = I at *
    cases X <;> (try simp only at hv) <;> first | (cases hv; done) | skip
    cases I <;> (try simp only at hv) <;> first | (cases hv; done) | skip
    rw [hi.eq rfl]
    simp only [VL] at hx
    obtain ⟨l', rfl, hl⟩ := hx
    simp only
    split at hv
    case isFalse => cases hv
    rename_i hlt
    rw [if_pos hlt]
    exact aPart_rel hl hv
  | indexStr x i =>
    simp only [POp.okc, Bool.and_eq_true] at hc
    have hx := ev_rel h hc.1
    have hi := ev_rel h hc.2
    simp only [POp.sub, wP, aP] at hv ⊢
    generalize (x.sub ρ).ev [] = X at *
    generalize (i.sub ρ).ev [] = I at *
    cases X <;> (try simp only at hv) <;> first | (cases hv; done) | skip
    cases I <;> (try simp only at hv) <;> first | (cases hv; done) | skip
    rw [hi.eq rfl, hx.eq rfl]
    simp only
    split at hv
    case isFalse => cases hv
    rename_i hlt
    rw [if_pos hlt, hv]
    obtain ⟨b, _, rfl⟩ := Option.map_eq_some_iff.1 hv
    exact ⟨_, rfl, by simp [VL]⟩
  | extract x i =>
    have hx := ev_rel h hc
    simp only [POp.sub, wP, aP] at hv ⊢
    generalize (x.sub ρ).ev [] = X at *
    generalize (x.sub σ).ev [] = X' at *
    cases X <;> (try simp only at hv) <;> first | (cases hv; done) | skip
    simp only [VL] at hx
    obtain ⟨l', rfl, hl⟩ := hx
    exact hl.get i v hv
  | len s x =>
    have hx := ev_rel h hc
    generalize hX : (x.sub ρ).ev [] = X at *
    generalize hX' : (x.sub σ).ev [] = X' at *
    cases s with
    | true =>
      simp only [POp.sub, wP, aP, hX, hX'] at hv ⊢
      cases X <;> (try simp only at hv) <;> first | (cases hv; done) | skip
      rw [hx.eq rfl]
      obtain rfl := Option.some.inj hv
      exact ⟨_, rfl, by simp [VL]⟩
    | false =>
      simp only [POp.sub, wP, aP, hX, hX'] at hv ⊢
      split at hv
      · simp only [Option.some.injEq] at hv
        subst hv
        simp only [VL] at hx
        rcases hx with ⟨rfl, rfl, s', rfl⟩ | ⟨b, o, cap, ex', rfl, _⟩
        · exact ⟨_, rfl, by simp [VL]⟩
        · exact ⟨_, rfl, by simp [VL]⟩
      · simp only [Option.some.injEq] at hv
        subst hv
        simp only [VL] at hx
        obtain ⟨p, s', cap, ex, rfl, _⟩ := hx
        exact ⟨_, rfl, by simp [VL]⟩
      · simp only [Option.some.injEq] at hv
        subst hv
        simp only [VL] at hx
        obtain ⟨_, s', rfl⟩ := hx
        exact ⟨_, rfl, by simp [VL]⟩
      · cases hv
  | cap x => simp [POp.sub, wP] at hv
  | minmax m xs =>
    have hx := evs_rel h hc
    simp only [POp.sub, wP, aP] at hv ⊢
    generalize (xs.map (AX.sub ρ)).map (AX.ev []) = X at *
    generalize (xs.map (AX.sub σ)).map (AX.ev []) = X' at *
    cases X with
    | nil => simp at hv
    | cons x r =>
      cases X' with
      | nil => simp [VLL] at hx
      | cons x' r' =>
        simp only [VLL] at hx
        exact aFold_rel hx.1 hx.2 hv
end
end
end Go.Proofs.Ytlcjmchhnbdepaa
end

section
/- W, fourth part: the frame's memory against the machine's: one block. -/
set_option linter.all false
set_option linter.unusedSimpArgs false
namespace Go.Proofs.Ytlcjmchhnbdepaa

theorem wget_eq : ∀ (H : WH) (i : Nat), wget H i = (H[i]?).getD none
  | [], i => by simp [wget]
  | x :: _, 0 => by simp [wget]
  | _ :: r, i + 1 => by simp [wget, wget_eq r i]
theorem wput_eq : ∀ (H : WH) (i : Nat) (y : Option Blk), wput H i y = H.set i y
  | [], i, y => by simp [wput]
  | x :: _, 0, y => by simp [wput]
  | _ :: r, i + 1, y => by simp [wput, wput_eq r i y]
theorem wget_lt {H : WH} {i : Nat} {x : Blk} (h : wget H i = some x) : i < H.length := by
  rw [wget_eq] at h
  rcases Nat.lt_or_ge i H.length with k | k
  · exact k
  · rw [List.getElem?_eq_none k] at h
    cases h
theorem wget_put (H : WH) (i : Nat) (y : Option Blk) (k : Nat) : wget (wput H i y) k = if k = i ∧ i < H.length then y else wget H k := by
  rw [wput_eq, wget_eq, wget_eq, List.getElem?_set]
  by_cases h : i = k
  · subst h
    by_cases hl : i < H.length
    · simp [hl]
    · simp [hl]
  · simp [h, Ne.symm h, show ¬ k = i from fun e => h e.symm]
theorem wget_app (H G : WH) (k : Nat) : wget (H ++ G) k = if k < H.length then wget H k else wget G (k - H.length) := by
  rw [wget_eq, wget_eq, wget_eq]
  by_cases h : k < H.length
  · rw [if_pos h, List.getElem?_append_left h]
  · rw [if_neg h, List.getElem?_append_right (by omega)]
theorem wget_one (x : Option Blk) (k : Nat) : wget [x] k = if k = 0 then x else none := by cases k <;> simp [wget]
theorem wput_len (H : WH) (i : Nat) (y : Option Blk) : (wput H i y).length = H.length := by rw [wput_eq, List.length_set]
theorem wget_ge {H : WH} {k : Nat} (h : H.length ≤ k) : wget H k = none := by rw [wget_eq, List.getElem?_eq_none h]; rfl
theorem wget_push (H : WH) (x : Option Blk) (k : Nat) : wget (H ++ [x]) k = if k < H.length then wget H k else if k = H.length then x else none := by
  rw [wget_app, wget_one]
  by_cases h : k < H.length
  · rw [if_pos h, if_pos h]
  · rw [if_neg h, if_neg h]
    by_cases e : k = H.length
    · rw [if_pos (by omega), if_pos e]
    · rw [if_neg (by omega), if_neg e]

theorem Stp.refl (n : Nat) (t : List Nat) (ι : VI) (H : WH) (M : Heap) (h : n ≤ H.length) : Stp n t ι H M ι H M :=
  ⟨.refl _ _, .refl _ _, fun _ _ h => h, fun _ _ => rfl, fun _ _ => rfl, fun _ _ _ => rfl, fun _ _ h => h, fun _ _ _ _ _ _ => rfl, h⟩
theorem Stp.act {n : Nat} {t : List Nat} {ι ι1 : VI} {H H1 : WH} {M M1 : Heap} (h : Stp n t ι H M ι1 H1 M1) {i : Nat} (hi : i < n) (ha : act ι1 H1 i) : Proofs.Ytlcjmchhnbdepaa.act ι H i :=
  ha.imp (h.live i hi) (fun hg => by
    cases e : ι.gone i with
    | false => rfl
    | true => rw [h.gone i hi e] at hg; cases hg)
theorem Stp.trans {n n' : Nat} {t t' : List Nat} {ι ι1 ι2 : VI} {H H1 H2 : WH} {M M1 M2 : Heap} (h : Stp n t ι H M ι1 H1 M1) (k : Stp n' t' ι1 H1 M1 ι2 H2 M2) (hn : n ≤ n') : Stp n (t ++ t') ι H M ι2 H2 M2 :=
  ⟨h.keep.trans k.keep, h.le.trans (k.le.sub fun i hi => by have : i < n := hi; show i < n'; omega), fun i hi hg => k.gone i (by omega) (h.gone i hi hg), fun i hi => (k.toq i (by omega)).trans (h.toq i hi), fun i hi => (k.dimq i (by omega)).trans (h.dimq i hi),
   fun i hi hd => by
    have hd1 : wget H1 i = none := by
      cases e : wget H1 i with
      | none => rfl
      | some x =>
        obtain ⟨y, hy⟩ := h.live i hi ⟨x, e⟩
        rw [hd] at hy
        cases hy
    exact (k.dgone i (by omega) hd1).trans (h.dgone i hi hd),
   fun i hi hl => h.live i hi (k.live i (by omega) hl),
   fun i j hi hl hj ht => by
    rw [List.mem_append, not_or] at ht
    exact (k.tch i j (by omega) hl ((h.le i hi).1 j hj).1 ht.2).trans (h.tch i j hi (k.act (by omega) hl) hj ht.1), Nat.le_trans hn k.next⟩
theorem Stp.weak {n n' : Nat} {t : List Nat} {ι ι1 : VI} {H H1 : WH} {M M1 : Heap} (h : Stp n t ι H M ι1 H1 M1) (hn : n' ≤ n) : Stp n' t ι H M ι1 H1 M1 :=
  ⟨h.keep, h.le.sub fun i hi => by have : i < n' := hi; show i < n; omega, fun i hi => h.gone i (by omega), fun i hi => h.toq i (by omega), fun i hi => h.dimq i (by omega), fun i hi => h.dgone i (by omega), fun i hi => h.live i (by omega), fun i j hi => h.tch i j (by omega), Nat.le_trans hn h.next⟩
theorem Stp.more {n : Nat} {t t' : List Nat} {ι ι1 : VI} {H H1 : WH} {M M1 : Heap} (h : Stp n t ι H M ι1 H1 M1) (ht : ∀ i, i < n → i ∈ t → i ∈ t') : Stp n t' ι H M ι1 H1 M1 :=
  ⟨h.keep, h.le, h.gone, h.toq, h.dimq, h.dgone, h.live, fun i j hi hl hj hn => h.tch i j hi hl hj (fun k => hn (ht i hi k)), h.next⟩

theorem Stp.leAll {R : Nat → Prop} {t : List Nat} {ι ι' : VI} {H H' : WH} {M M' : Heap} (s : VS R ι H M) (k : Stp H.length t ι H M ι' H' M') (S : Nat → Prop) : VI.Le ι ι' S := fun i _ =>
  ⟨fun j h => (k.le i (s.lt i j h).1).1 j h, fun h => (k.le i (s.solt i h).1).2 h⟩
theorem VL.step {R : Nat → Prop} {t : List Nat} {ι ι' : VI} {H H' : WH} {M M' : Heap} (s : VS R ι H M) (k : Stp H.length t ι H M ι' H' M') {v a : AV} (h : VL M (OR R ι) ι v a) : VL M' (OR R ι') ι' v a :=
  VL.mono (k.keep.or R) ι ι' v a (k.leAll s _) h
theorem VLL.step {R : Nat → Prop} {t : List Nat} {ι ι' : VI} {H H' : WH} {M M' : Heap} (s : VS R ι H M) (k : Stp H.length t ι H M ι' H' M') {v a : List AV} (h : VLL M (OR R ι) ι v a) : VLL M' (OR R ι') ι' v a :=
  VLL.mono (k.keep.or R) ι ι' v a (k.leAll s _) h
/-- Lists hold wherever blocks are. -/
theorem VLL.lift {M : Heap} {O : Nat → Prop} {κ : VI} {l r : List AV} (h : VLL M O VI.none l r) : VLL M O κ l r :=
  VLL.mono (.refl M O) _ κ l r (VI.Le.of_none _ _) h
theorem VLL.kap {M : Heap} {O : Nat → Prop} {κ : VI} {sl : Bool} {l r : List AV} (h : VLL M O (if sl then VI.none else κ) l r) : VLL M O κ l r := by
  cases sl with
  | true => exact VLL.lift h
  | false => exact h
theorem VLL.stepN {R : Nat → Prop} {n : Nat} {t : List Nat} {ι ι' : VI} {H H' : WH} {M M' : Heap} (k : Stp n t ι H M ι' H' M') {v a : List AV} (h : VLL M (OR R ι) VI.none v a) : VLL M' (OR R ι') VI.none v a :=
  VLL.mono (k.keep.or R) VI.none VI.none v a (VI.Le.refl _ _) h

theorem BL.mono {M M' : Heap} {O O' : Nat → Prop} (hk : Keeps M O M' O') {κ κ' : VI} (h : ∀ S, VI.Le κ κ' S) {d d' : Option (Nat × Nat)} (hd : ∀ x, d = some x → d' = some x) {x : Blk} {y : Option Blk} (r : BL M O κ d x y) : BL M' O' κ' d' x y := by
  cases x with
  | cells c ro sl =>
    obtain ⟨c', t, ro', sl', L, rfl, h0, h1, h2, h3, h4⟩ := r
    refine ⟨c', t, ro', sl', L, rfl, h0, hd _ h1, h2, ?_, h4⟩
    cases sl with
    | true => exact VLL.mono hk _ _ c c' (.refl _ _) h3
    | false => exact VLL.mono hk κ κ' c c' (h _) h3
  | map es => exact ⟨r.1, hd _ r.2.1, r.2.2⟩

theorem VS.at {R : Nat → Prop} {ι : VI} {H : WH} {M : Heap} (s : VS R ι H M) {b j : Nat} (hb : ι b = some j) {c : List AV} {ro sl : Bool} (hg : wget H b = some (.cells c ro sl)) :
    ∃ c' t ro' sl' L, M.get j = some (.cells (c' ++ t) ro' sl') ∧ (ro = false → ro' = false ∧ ι.gone b = false) ∧ ι.dim b = some (c.length, L) ∧ L ≤ (c' ++ t).length ∧ VLL M (OR R ι) (if sl then VI.none else ι) c c' := by
  rcases s.blk b _ hg with ⟨h, _⟩ | ⟨j', h1, ⟨c', t, ro', sl', L, h2, h3, h4, h5, h6, _⟩, h7⟩
  · rw [(s.solt b h).2] at hb
    cases hb
  · rw [hb] at h1
    obtain rfl := Option.some.inj h1
    exact ⟨c', t, ro', sl', L, h2, fun h => ⟨h3 h, h7 h⟩, h4, h5, h6⟩
/-- A block that is no slice's row has no room behind. -/
theorem VS.at_sl {R : Nat → Prop} {ι : VI} {H : WH} {M : Heap} (s : VS R ι H M) {b j : Nat} (hb : ι b = some j) {c : List AV} {ro sl : Bool} (hg : wget H b = some (.cells c ro sl)) {c' : List AV} {ro' sl' : Bool} (hj : M.get j = some (.cells c' ro' sl')) (h : sl = false) : sl' = false := by
  rcases s.blk b _ hg with ⟨h, _⟩ | ⟨j', h1, ⟨d', t, ro2, sl2, L, h2, h3, h4, h5, h6, h8⟩, h7⟩
  · rw [(s.solt b h).2] at hb
    cases hb
  · rw [hb] at h1
    obtain rfl := Option.some.inj h1
    rw [hj] at h2
    simp only [Option.some.injEq, Blk.cells.injEq] at h2
    rw [h2.2.2]
    exact h8 h

theorem own_lt {R : Nat → Prop} {ι : VI} {H : WH} {M : Heap} (s : VS R ι H M) {j : Nat} (h : own ι j) : j < M.next := by
  obtain ⟨i, hi, _⟩ := h
  exact (s.lt i j hi).2

/-! ### One block -/

def setAt {α : Type} (f : Nat → α) (i : Nat) (x : α) : Nat → α := fun k => if k = i then x else f k
def VI.add (ι : VI) (i j : Nat) (d : Nat × Nat) : VI := ⟨setAt ι.to i (some j), setAt ι.sol i false, setAt ι.gone i false, setAt ι.dim i (some d)⟩
def VI.addSol (ι : VI) (i : Nat) : VI := ⟨setAt ι.to i Option.none, setAt ι.sol i true, setAt ι.gone i false, setAt ι.dim i (some (0, 0))⟩
def VI.kill (ι : VI) (i : Nat) : VI := ⟨ι.to, ι.sol, setAt ι.gone i true, ι.dim⟩

theorem setAt_self {α : Type} (f : Nat → α) (i : Nat) (x : α) : setAt f i x i = x := by simp [setAt]
theorem setAt_ne {α : Type} (f : Nat → α) {i k : Nat} (x : α) (h : k ≠ i) : setAt f i x k = f k := by simp [setAt, h]

/-- A block of the frame's own, written to. -/
theorem VS.putG {R : Nat → Prop} {ι : VI} {H : WH} {M : Heap} (s : VS R ι H M) {b j : Nat} (hb : ι b = some j) {x0 : Blk} (h0 : x0.ro = false) (hg : wget H b = some x0) {x y : Blk} (hx : BL M (OR R ι) ι (ι.dim b) x (some y)) :
    VS R ι (wput H b (some x)) (M.put j (some y)) ∧ Stp H.length [b] ι H M ι (wput H b (some x)) (M.put j (some y)) := by
  have hgo : ι.gone b = false := by
    rcases s.blk b _ hg with ⟨q, _⟩ | ⟨_, _, _, q⟩
    · rw [(s.solt b q).2] at hb
      cases hb
    · exact q h0
  have hbl := wget_lt hg
  have hk : Keeps M (own ι) (M.put j (some y)) (own ι) := ⟨Nat.le_refl _, fun b' _ ho => ⟨by
    have : b' ≠ j := fun e => ho (e ▸ ⟨b, hb, hgo⟩)
    simp [Heap.put, this], ho⟩⟩
  have gp : ∀ k, wget (wput H b (some x)) k = if k = b then some x else wget H k := fun k => by
    rw [wget_put]
    by_cases e : k = b
    · rw [if_pos ⟨e, hbl⟩, if_pos e]
    · rw [if_neg (fun h => e h.1), if_neg e]
  have lv : ∀ k, (∃ z, wget (wput H b (some x)) k = some z) → ∃ z, wget H k = some z := fun k ⟨z, hz⟩ => by
    rw [gp] at hz
    by_cases e : k = b
    · exact ⟨_, e ▸ hg⟩
    · rw [if_neg e] at hz
      exact ⟨z, hz⟩
  refine ⟨⟨fun i j h => ?_, fun i i' j h h' e e' => s.inj i i' j (h.imp (lv i) id) (h'.imp (lv i') id) e e', fun i z hz => ?_, fun i h => ?_, fun i hi c sl h => ?_, fun i hi => ?_, fun j h => ⟨(s.res j h).1, fun i hi => (s.res j h).2 i (hi.imp (lv i) id)⟩⟩, ⟨hk, .refl _ _, fun _ _ h => h, fun _ _ => rfl, fun _ _ => rfl, fun _ _ _ => rfl, fun i _ => lv i, fun i j' hi hl hj ht => ?_, by rw [wput_len]; exact Nat.le_refl _⟩⟩
  · rw [wput_len]
    exact s.lt i j h
  · rw [gp] at hz
    by_cases e : i = b
    · subst e
      rw [if_pos rfl] at hz
      obtain rfl := Option.some.inj hz
      refine .inr ⟨j, hb, ?_, fun _ => hgo⟩
      simp only [Heap.put, if_true]
      exact hx.mono (hk.or R) (fun _ => .refl _ _) (fun _ h => h)
    · rw [if_neg e] at hz
      rcases s.blk i z hz with h | ⟨j', h1, h2, h3⟩
      · exact .inl h
      · have : j' ≠ j := fun e' => e (s.inj i b j (.inl ⟨z, hz⟩) (.inl ⟨_, hg⟩) (e' ▸ h1) hb (.inr hgo))
        refine .inr ⟨j', h1, ?_, h3⟩
        simp only [Heap.put, if_neg this]
        exact h2.mono (hk.or R) (fun _ => .refl _ _) (fun _ h => h)
  · rw [wput_len]
    exact s.solt i h
  · rw [gp] at h
    have : i ≠ b := fun e => by subst e; rw [hgo] at hi; cases hi
    rw [if_neg this] at h
    exact s.ice i hi c sl h
  · have := (s.lt b j hb).2
    have : i ≠ j := fun e => by subst e; simp only [Heap.put] at hi; omega
    simp only [Heap.put, if_neg this]
    exact s.okM i hi
  · have hib : i ≠ b := fun e => ht (by simp [e])
    have : j' ≠ j := fun e' => hib (s.inj i b j (hl.imp (lv i) id) (.inl ⟨_, hg⟩) (e' ▸ hj) hb (.inr hgo))
    simp [Heap.put, this]

theorem VS.put {R : Nat → Prop} {ι : VI} {H : WH} {M : Heap} (s : VS R ι H M) {b j : Nat} (hb : ι b = some j) {c0 : List AV} {sl0 : Bool} (hg : wget H b = some (.cells c0 false sl0)) {x y : Blk} (hx : BL M (OR R ι) ι (ι.dim b) x (some y)) :
    VS R ι (wput H b (some x)) (M.put j (some y)) ∧ Stp H.length [b] ι H M ι (wput H b (some x)) (M.put j (some y)) := s.putG hb rfl hg hx

theorem own_kill {ι : VI} {b j : Nat} (h : own (ι.kill b) j) : own ι j := by
  obtain ⟨i, h1, h2⟩ := h
  refine ⟨i, h1, ?_⟩
  simp only [VI.kill, setAt] at h2
  split at h2
  · cases h2
  · exact h2

/-- What the frame gives up; 'y': what the machine has there then. -/
theorem VS.kill {R : Nat → Prop} {ι : VI} {H : WH} {M : Heap} (s : VS R ι H M) {b j : Nat} (hb : ι b = some j) {c0 : List AV} {sl0 : Bool} (hg : wget H b = some (.cells c0 false sl0)) (y : Option Blk) :
    VS R (ι.kill b) (wput H b none) (M.put j y) ∧ Stp H.length [b] ι H M (ι.kill b) (wput H b none) (M.put j y) := by
  obtain ⟨_, _, _, _, _, _, hw, _⟩ := s.at hb hg
  have hgo := (hw rfl).2
  have hbl := wget_lt hg
  have hk : Keeps M (own ι) (M.put j y) (own (ι.kill b)) := ⟨Nat.le_refl _, fun b' _ ho => ⟨by
    have : b' ≠ j := fun e => ho (e ▸ ⟨b, hb, hgo⟩)
    simp [Heap.put, this], fun k => ho (own_kill k)⟩⟩
  have gp : ∀ k, wget (wput H b none) k = if k = b then none else wget H k := fun k => by
    rw [wget_put]
    by_cases e : k = b
    · rw [if_pos ⟨e, hbl⟩, if_pos e]
    · rw [if_neg (fun h => e h.1), if_neg e]
  have lv : ∀ k, (∃ z, wget (wput H b none) k = some z) → k ≠ b ∧ ∃ z, wget H k = some z := fun k ⟨z, hz⟩ => by
    rw [gp] at hz
    by_cases e : k = b
    · rw [if_pos e] at hz; cases hz
    · rw [if_neg e] at hz
      exact ⟨e, z, hz⟩
  have gk : ∀ i, (ι.kill b).gone i = false → ι.gone i = false := fun i h => by
    simp only [VI.kill, setAt] at h
    split at h
    · cases h
    · exact h
  have ac : ∀ i, act (ι.kill b) (wput H b none) i → act ι H i := fun i h => h.imp (fun h => (lv i h).2) (fun h => by
    simp only [VI.kill, setAt] at h
    split at h
    · cases h
    · exact h)
  refine ⟨⟨fun i j h => ?_, fun i i' j h h' e e' g => s.inj i i' j (ac i h) (ac i' h') e e' (g.imp (fun g => gk i g) (fun g => gk i' g)), fun i z hz => ?_, fun i h => ?_, fun i hi c sl h => ?_, fun i hi => ?_, fun j h => ⟨(s.res j h).1, fun i hi => (s.res j h).2 i (ac i hi)⟩⟩, ⟨hk, fun _ _ => ⟨fun _ h => ⟨h, fun _ h => h⟩, fun h => ⟨h, fun _ h => h⟩⟩, fun i _ h => ?_, fun _ _ => rfl, fun _ _ => rfl, fun i _ h => ?_, fun i _ h => (lv i h).2, fun i j' hi hl hj ht => ?_, by rw [wput_len]; exact Nat.le_refl _⟩⟩
  · rw [wput_len]
    exact s.lt i j h
  · have e := (lv i ⟨z, hz⟩).1
    rw [gp, if_neg e] at hz
    rcases s.blk i z hz with h | ⟨j', h1, h2, h3⟩
    · exact .inl h
    · have : j' ≠ j := fun e' => e (s.inj i b j (.inl ⟨z, hz⟩) (.inl ⟨_, hg⟩) (e' ▸ h1) hb (.inr hgo))
      refine .inr ⟨j', h1, ?_, fun h => by simp only [VI.kill, setAt_ne _ _ e]; exact h3 h⟩
      simp only [Heap.put, if_neg this]
      exact BL.mono (κ := ι) (κ' := ι.kill b) (d := ι.dim i) (hk.or R) (fun _ _ _ => ⟨fun _ h => ⟨h, fun _ h => h⟩, fun h => ⟨h, fun _ h => h⟩⟩) (fun _ h => h) h2
  · rw [wput_len]
    exact s.solt i h
  · have e := (lv i ⟨_, h⟩).1
    rw [gp, if_neg e] at h
    simp only [VI.kill, setAt_ne _ _ e] at hi
    exact s.ice i hi c sl h
  · have := (s.lt b j hb).2
    have : i ≠ j := fun e => by subst e; simp only [Heap.put] at hi; omega
    simp only [Heap.put, if_neg this]
    exact s.okM i hi
  · simp only [VI.kill, setAt]
    split
    · rfl
    · exact h
  · have hib : i ≠ b := fun e => by subst e; rw [hg] at h; cases h
    simp only [VI.kill, setAt_ne _ _ hib]
  · have hib : i ≠ b := fun e => ht (by simp [e])
    have : j' ≠ j := fun e' => hib (s.inj i b j (ac i hl) (.inl ⟨_, hg⟩) (e' ▸ hj) hb (.inr hgo))
    simp [Heap.put, this]

theorem Heap.put_same {M : Heap} {j : Nat} {y : Option Blk} (h : M.get j = y) : M.put j y = M := by
  cases M
  simp only [Heap.put]
  congr 1
  funext i
  by_cases e : i = j
  · subst e; simp; exact h.symm
  · simp [e]

theorem add_le {R : Nat → Prop} {ι : VI} {H : WH} {M : Heap} (s : VS R ι H M) {i : Nat} (hi : H.length ≤ i) (j : Nat) (d : Nat × Nat) (S : Nat → Prop) : VI.Le ι (ι.add i j d) S := fun k _ =>
  ⟨fun j' h => by
    have : k ≠ i := by have := (s.lt k j' h).1; omega
    simp only [VI.add, setAt_ne _ _ this]
    exact ⟨h, fun _ h => h⟩,
   fun h => by
    have : k ≠ i := by have := (s.solt k h).1; omega
    simp only [VI.add, setAt_ne _ _ this]
    exact ⟨h, fun _ h => h⟩⟩
theorem addSol_le {R : Nat → Prop} {ι : VI} {H : WH} {M : Heap} (s : VS R ι H M) {i : Nat} (hi : H.length ≤ i) (S : Nat → Prop) : VI.Le ι (ι.addSol i) S := fun k _ =>
  ⟨fun j' h => by
    have : k ≠ i := by have := (s.lt k j' h).1; omega
    simp only [VI.addSol, setAt_ne _ _ this]
    exact ⟨h, fun _ h => h⟩,
   fun h => by
    have : k ≠ i := by have := (s.solt k h).1; omega
    simp only [VI.addSol, setAt_ne _ _ this]
    exact ⟨h, fun _ h => h⟩⟩

/-- A new block. -/
theorem VS.push {R : Nat → Prop} {ι : VI} {H : WH} {M : Heap} (s : VS R ι H M) {x y : Blk} {d : Nat × Nat} (hx : BL M (OR R ι) ι (some d) x (some y)) :
    VS R (ι.add H.length M.next d) (H ++ [some x]) (M.push y) ∧ Stp H.length [] ι H M (ι.add H.length M.next d) (H ++ [some x]) (M.push y) := by
  have hls := fun S => add_le s (Nat.le_refl _) M.next d S
  have hk : Keeps M (own ι) (M.push y) (own (ι.add H.length M.next d)) := ⟨Nat.le_succ _, fun b hb ho => ⟨by simp [Heap.push, Nat.ne_of_lt hb], fun ⟨i, hi, hg⟩ => by
    by_cases e : i = H.length
    · subst e
      simp only [VI.add, setAt_self, Option.some.injEq] at hi
      omega
    · simp only [VI.add, setAt_ne _ _ e] at hi hg
      exact ho ⟨i, hi, hg⟩⟩⟩
  have ac : ∀ i, i ≠ H.length → act (ι.add H.length M.next d) (H ++ [some x]) i → act ι H i := fun i a h => by
    rcases h with ⟨z, h⟩ | h
    · rw [wget_push] at h
      split at h
      · exact .inl ⟨z, h⟩
      · first | (cases h; done) | (rw [if_neg a] at h; cases h)
    · simp only [VI.add, setAt_ne _ _ a] at h
      exact .inr h
  refine ⟨⟨fun i j h => ?_, fun i i' j h h' e e' g => ?_, fun i z hz => ?_, fun i hi => ?_, fun i hi c sl h => ?_, fun i hi => ?_, fun j h => ?_⟩, ⟨hk, hls _, fun i hi hg => ?_, fun i hi => by simp only [VI.add, setAt_ne _ _ (show i ≠ H.length by omega)], fun i hi => by simp only [VI.add, setAt_ne _ _ (show i ≠ H.length by omega)], fun i hi _ => by simp only [VI.add, setAt_ne _ _ (show i ≠ H.length by omega)], fun i hi hl => ?_, fun i j hi hl hj _ => ?_, by simp⟩⟩
  · by_cases e : i = H.length
    · subst e
      simp only [VI.add, setAt_self, Option.some.injEq] at h
      simp [Heap.push]; omega
    · simp only [VI.add, setAt_ne _ _ e] at h
      have := s.lt i j h
      simp [Heap.push]; omega
  · by_cases a : i = H.length
    · by_cases a' : i' = H.length
      · rw [a, a']
      · rw [a] at e
        simp only [VI.add, setAt_self, Option.some.injEq] at e
        simp only [VI.add, setAt_ne _ _ a'] at e'
        have := (s.lt _ _ e').2
        omega
    · simp only [VI.add, setAt_ne _ _ a] at e
      by_cases a' : i' = H.length
      · rw [a'] at e'
        simp only [VI.add, setAt_self, Option.some.injEq] at e'
        have := (s.lt _ _ e).2
        omega
      · simp only [VI.add, setAt_ne _ _ a'] at e'
        simp only [VI.add, setAt_ne _ _ a', setAt_ne _ _ a] at g
        exact s.inj i i' j (ac i a h) (ac i' a' h') e e' g
  · rw [wget_push] at hz
    split at hz
    · rename_i hl
      have e : i ≠ H.length := by omega
      rcases s.blk i z hz with ⟨h1, h2, h3⟩ | ⟨j, h1, h2, h3⟩
      · exact .inl (by simp only [VI.add, setAt_ne _ _ e]; exact ⟨h1, h2, h3⟩)
      · have := (s.lt i j h1).2
        refine .inr ⟨j, by simp only [VI.add, setAt_ne _ _ e]; exact h1, ?_, by simp only [VI.add, setAt_ne _ _ e]; exact h3⟩
        simp only [Heap.push, if_neg (show j ≠ M.next by omega)]
        exact h2.mono (hk.or R) hls (fun _ h => by simp only [VI.add, setAt_ne _ _ e]; exact h)
    · split at hz
      · rename_i e
        obtain rfl := Option.some.inj hz
        subst e
        refine .inr ⟨M.next, by simp [VI.add, setAt], ?_, fun _ => by simp [VI.add, setAt]⟩
        simp only [Heap.push, if_true]
        exact hx.mono (hk.or R) hls (fun _ h => by simpa [VI.add, setAt] using h)
      · cases hz
  · by_cases e : i = H.length
    · subst e
      simp [VI.add, setAt] at hi
    · simp only [VI.add, setAt_ne _ _ e] at hi ⊢
      have := s.solt i hi
      exact ⟨by simp; omega, this.2⟩
  · by_cases e : i = H.length
    · subst e
      simp [VI.add, setAt] at hi
    · simp only [VI.add, setAt_ne _ _ e] at hi
      rw [wget_push] at h
      split at h
      · exact s.ice i hi c sl h
      · first | (cases h; done) | (rw [if_neg e] at h; cases h)
  · simp only [Heap.push] at hi ⊢
    rw [if_neg (by omega)]
    exact s.okM i (by omega)
  · obtain ⟨h1, h2⟩ := s.res j h
    refine ⟨by simp only [Heap.push]; omega, fun i hi => ?_⟩
    by_cases e : i = H.length
    · subst e
      simp only [VI.add, setAt_self, ne_eq, Option.some.injEq]
      omega
    · have := h2 i (ac i e hi)
      simp only [VI.add, setAt_ne _ _ e]
      exact this
  · simp only [VI.add, setAt_ne _ _ (show i ≠ H.length by omega)]
    exact hg
  · obtain ⟨z, hl⟩ := hl
    rw [wget_push, if_pos hi] at hl
    exact ⟨z, hl⟩
  · simp [Heap.push, show j ≠ M.next from by have := (s.lt i j hj).2; omega]

/-- A block of what is empty: nothing at all. -/
theorem VS.pushSol {R : Nat → Prop} {ι : VI} {H : WH} {M : Heap} (s : VS R ι H M) :
    VS R (ι.addSol H.length) (H ++ [some (.cells [] false true)]) M ∧ Stp H.length [] ι H M (ι.addSol H.length) (H ++ [some (.cells [] false true)]) M := by
  have hls := fun S => addSol_le s (Nat.le_refl _) S
  have ho : ∀ j, own (ι.addSol H.length) j → own ι j := fun j ⟨i, hi, hg⟩ => by
    by_cases e : i = H.length
    · subst e
      simp [VI.addSol, setAt_self] at hi
    · simp only [VI.addSol, setAt_ne _ _ e] at hi hg
      exact ⟨i, hi, hg⟩
  have hk : Keeps M (own ι) M (own (ι.addSol H.length)) := ⟨Nat.le_refl _, fun b hb h => ⟨rfl, fun k => h (ho b k)⟩⟩
  have ac : ∀ i, i ≠ H.length → act (ι.addSol H.length) (H ++ [some (.cells [] false true)]) i → act ι H i := fun i a h => by
    rcases h with ⟨z, h⟩ | h
    · rw [wget_push] at h
      split at h
      · exact .inl ⟨z, h⟩
      · first | (cases h; done) | (rw [if_neg a] at h; cases h)
    · simp only [VI.addSol, setAt_ne _ _ a] at h
      exact .inr h
  refine ⟨⟨fun i j h => ?_, fun i i' j h h' e e' g => ?_, fun i z hz => ?_, fun i hi => ?_, fun i hi c sl h => ?_, s.okM, fun j h => ⟨(s.res j h).1, fun i hi => ?_⟩⟩, ⟨hk, hls _, fun i hi hg => ?_, fun i hi => by simp only [VI.addSol, setAt_ne _ _ (show i ≠ H.length by omega)], fun i hi => by simp only [VI.addSol, setAt_ne _ _ (show i ≠ H.length by omega)], fun i hi _ => by simp only [VI.addSol, setAt_ne _ _ (show i ≠ H.length by omega)], fun i hi hl => ?_, fun i j hi hl hj _ => rfl, by simp⟩⟩
  · by_cases e : i = H.length
    · subst e
      simp [VI.addSol, setAt_self] at h
    · simp only [VI.addSol, setAt_ne _ _ e] at h
      have := s.lt i j h
      simp; omega
  · have a : i ≠ H.length := fun a => by subst a; simp [VI.addSol, setAt_self] at e
    have a' : i' ≠ H.length := fun a => by subst a; simp [VI.addSol, setAt_self] at e'
    exact s.inj i i' j (ac i a h) (ac i' a' h') (by simpa only [VI.addSol, setAt_ne _ _ a] using e) (by simpa only [VI.addSol, setAt_ne _ _ a'] using e') (by simpa only [VI.addSol, setAt_ne _ _ a', setAt_ne _ _ a] using g)
  · rw [wget_push] at hz
    split at hz
    · rename_i hl
      have e : i ≠ H.length := by omega
      rcases s.blk i z hz with ⟨h1, h2, h3⟩ | ⟨j, h1, h2, h3⟩
      · exact .inl (by simp only [VI.addSol, setAt_ne _ _ e]; exact ⟨h1, h2, h3⟩)
      · exact .inr ⟨j, by simp only [VI.addSol, setAt_ne _ _ e]; exact h1, h2.mono (hk.or R) hls (fun _ h => by simp only [VI.addSol, setAt_ne _ _ e]; exact h), by simp only [VI.addSol, setAt_ne _ _ e]; exact h3⟩
    · split at hz
      · rename_i e
        obtain rfl := Option.some.inj hz
        subst e
        exact .inl ⟨by simp [VI.addSol, setAt], by simp [VI.addSol, setAt], false, rfl⟩
      · cases hz
  · by_cases e : i = H.length
    · subst e
      simp [VI.addSol, setAt]
    · simp only [VI.addSol, setAt_ne _ _ e] at hi ⊢
      have := s.solt i hi
      exact ⟨by simp; omega, this.2⟩
  · by_cases e : i = H.length
    · subst e
      simp [VI.addSol, setAt] at hi
    · simp only [VI.addSol, setAt_ne _ _ e] at hi
      rw [wget_push] at h
      split at h
      · exact s.ice i hi c sl h
      · first | (cases h; done) | (rw [if_neg e] at h; cases h)
  · by_cases e : i = H.length
    · subst e
      simp [VI.addSol, setAt_self]
    · have := (s.res j h).2 i (ac i e hi)
      simp only [VI.addSol, setAt_ne _ _ e]
      exact this
  · simp only [VI.addSol, setAt_ne _ _ (show i ≠ H.length by omega)]
    exact hg
  · obtain ⟨z, hl⟩ := hl
    rw [wget_push, if_pos hi] at hl
    exact ⟨z, hl⟩

/-- What is nothing but what is empty is given up. -/
theorem VS.dropSol {R : Nat → Prop} {ι : VI} {H : WH} {M : Heap} (s : VS R ι H M) {b : Nat} (hb : ι.sol b = true) : VS R ι (wput H b none) M ∧ Stp H.length [b] ι H M ι (wput H b none) M := by
  have lv : ∀ k, (∃ z, wget (wput H b none) k = some z) → k ≠ b ∧ ∃ z, wget H k = some z := fun k ⟨z, hz⟩ => by
    rw [wget_put] at hz
    split at hz
    · cases hz
    · rename_i h
      exact ⟨fun e => h ⟨e, (s.solt b hb).1⟩, z, hz⟩
  have gn : ∀ k, k ≠ b → wget (wput H b none) k = wget H k := fun k h => by rw [wget_put, if_neg (fun e => h e.1)]
  refine ⟨⟨fun i j h => by rw [wput_len]; exact s.lt i j h, fun i i' j h h' e e' => s.inj i i' j (h.imp (fun h => (lv i h).2) id) (h'.imp (fun h => (lv i' h).2) id) e e', fun i z hz => ?_, fun i h => by rw [wput_len]; exact s.solt i h, fun i hi c sl h => ?_, s.okM, fun j h => ⟨(s.res j h).1, fun i hi => (s.res j h).2 i (hi.imp (fun h => (lv i h).2) id)⟩⟩, ⟨.refl _ _, .refl _ _, fun _ _ h => h, fun _ _ => rfl, fun _ _ => rfl, fun _ _ _ => rfl, fun i _ h => (lv i h).2, fun _ _ _ _ _ _ => rfl, by rw [wput_len]; exact Nat.le_refl _⟩⟩
  · have e := (lv i ⟨z, hz⟩).1
    rw [gn i e] at hz
    exact s.blk i z hz
  · have e := (lv i ⟨_, h⟩).1
    rw [gn i e] at h
    exact s.ice i hi c sl h

/-- A block of the frame's own takes a new name, and more, or less, is known of it. -/
theorem VS.swap {R : Nat → Prop} {ι : VI} {H : WH} {M : Heap} (s : VS R ι H M) {b j : Nat} (hb : ι b = some j) {c0 : List AV} {sl0 : Bool} (hg : wget H b = some (.cells c0 false sl0)) {x y : Blk} {d : Nat × Nat} (hx : BL M (OR R ι) ι (some d) x (some y)) :
    VS R ((ι.kill b).add H.length j d) (wput H b none ++ [some x]) (M.put j (some y)) ∧ Stp H.length [b] ι H M ((ι.kill b).add H.length j d) (wput H b none ++ [some x]) (M.put j (some y)) ∧ ((ι.kill b).add H.length j d) H.length = some j := by
  obtain ⟨_, _, _, _, _, _, hw, _⟩ := s.at hb hg
  have hgo := (hw rfl).2
  have hbl := wget_lt hg
  have hj := (s.lt b j hb).2
  have hto : ∀ i, i ≠ H.length → ((ι.kill b).add H.length j d) i = ι i := fun i e => by simp only [VI.add, VI.kill, setAt_ne _ _ e]
  have hsol : ∀ i, i ≠ H.length → ((ι.kill b).add H.length j d).sol i = ι.sol i := fun i e => by simp only [VI.add, VI.kill, setAt_ne _ _ e]
  have hdim : ∀ i, i ≠ H.length → ((ι.kill b).add H.length j d).dim i = ι.dim i := fun i e => by simp only [VI.add, VI.kill, setAt_ne _ _ e]
  have hgn : ∀ i, i ≠ H.length → i ≠ b → ((ι.kill b).add H.length j d).gone i = ι.gone i := fun i e e' => by simp only [VI.add, VI.kill, setAt_ne _ _ e, setAt_ne _ _ e']
  have hself : ((ι.kill b).add H.length j d) H.length = some j := by simp [VI.add, setAt]
  have ho : ∀ k, own ((ι.kill b).add H.length j d) k → own ι k := fun k ⟨i, hi, hg'⟩ => by
    by_cases e : i = H.length
    · subst e
      rw [hself] at hi
      obtain rfl := Option.some.inj hi
      exact ⟨b, hb, hgo⟩
    · rw [hto i e] at hi
      by_cases e' : i = b
      · subst e'
        exact ⟨i, hi, hgo⟩
      · rw [hgn i e e'] at hg'
        exact ⟨i, hi, hg'⟩
  have hls : ∀ S, VI.Le ι ((ι.kill b).add H.length j d) S := fun S k _ =>
    ⟨fun j' h => by
      have : k ≠ H.length := by have := (s.lt k j' h).1; omega
      rw [hto k this, hdim k this]
      exact ⟨h, fun _ h => h⟩,
     fun h => by
      have : k ≠ H.length := by have := (s.solt k h).1; omega
      rw [hsol k this, hdim k this]
      exact ⟨h, fun _ h => h⟩⟩
  have hk : Keeps M (own ι) (M.put j (some y)) (own ((ι.kill b).add H.length j d)) := ⟨Nat.le_refl _, fun b' _ h => ⟨by
    have : b' ≠ j := fun e => h (e ▸ ⟨b, hb, hgo⟩)
    simp [Heap.put, this], fun k => h (ho b' k)⟩⟩
  have gp : ∀ k, wget (wput H b none ++ [some x]) k = if k = H.length then some x else if k = b then none else wget H k := fun k => by
    rw [wget_push, wput_len, wget_put]
    by_cases e : k < H.length
    · rw [if_pos e, if_neg (show k ≠ H.length by omega)]
      by_cases e' : k = b
      · rw [if_pos ⟨e', hbl⟩, if_pos e']
      · rw [if_neg (fun h => e' h.1), if_neg e']
    · rw [if_neg e]
      by_cases e' : k = H.length
      · rw [if_pos e', if_pos e']
      · rw [if_neg e', if_neg e', if_neg (show k ≠ b by omega), wget_ge (by omega)]
  have lv : ∀ k, k ≠ H.length → (∃ z, wget (wput H b none ++ [some x]) k = some z) → k ≠ b ∧ ∃ z, wget H k = some z := fun k hn ⟨z, hz⟩ => by
    rw [gp, if_neg hn] at hz
    by_cases e : k = b
    · rw [if_pos e] at hz; cases hz
    · rw [if_neg e] at hz
      exact ⟨e, z, hz⟩
  have ac : ∀ i, i ≠ H.length → act ((ι.kill b).add H.length j d) (wput H b none ++ [some x]) i → i ≠ b ∧ act ι H i := fun i a h => by
    rcases h with h | h
    · exact ⟨(lv i a h).1, .inl (lv i a h).2⟩
    · have e' : i ≠ b := fun e' => by subst e'; simp [VI.add, VI.kill, setAt, a] at h
      rw [hgn i a e'] at h
      exact ⟨e', .inr h⟩
  refine ⟨⟨fun i k h => ?_, fun i i' k h h' e e' g => ?_, fun i z hz => ?_, fun i hi => ?_, fun i hi c sl h => ?_, fun i hi => ?_, fun k h => ⟨(s.res k h).1, fun i hi => ?_⟩⟩, ⟨hk, hls _, fun i hi h => ?_, fun i hi => hto i (by omega), fun i hi => hdim i (by omega), fun i hi h => hgn i (by omega) (fun e => by subst e; rw [hg] at h; cases h), fun i hi h => (lv i (by omega) h).2, fun i k hi hl hk' ht => ?_, by simp [wput_len]⟩, hself⟩
  · simp only [List.length_append, wput_len, List.length_singleton, Heap.put]
    by_cases e : i = H.length
    · subst e
      rw [hself] at h
      obtain rfl := Option.some.inj h
      omega
    · rw [hto i e] at h
      have := s.lt i k h
      omega
  · by_cases a : i = H.length
    · by_cases a' : i' = H.length
      · rw [a, a']
      · rw [a, hself] at e
        obtain rfl := Option.some.inj e
        rw [hto i' a'] at e'
        obtain ⟨q1, q2⟩ := ac i' a' h'
        exact absurd (s.inj i' b j q2 (.inl ⟨_, hg⟩) e' hb (.inr hgo)) q1
    · rw [hto i a] at e
      obtain ⟨q1, q2⟩ := ac i a h
      by_cases a' : i' = H.length
      · rw [a', hself] at e'
        obtain rfl := Option.some.inj e'
        exact absurd (s.inj i b j q2 (.inl ⟨_, hg⟩) e hb (.inr hgo)) q1
      · rw [hto i' a'] at e'
        obtain ⟨q3, q4⟩ := ac i' a' h'
        rw [hgn i a q1, hgn i' a' q3] at g
        exact s.inj i i' k q2 q4 e e' g
  · by_cases e : i = H.length
    · subst e
      rw [gp, if_pos rfl] at hz
      obtain rfl := Option.some.inj hz
      refine .inr ⟨j, hself, ?_, fun _ => by simp [VI.add, setAt]⟩
      simp only [Heap.put, if_true]
      exact hx.mono (hk.or R) hls (fun _ h => by simpa [VI.add, setAt] using h)
    · obtain ⟨q1, q2⟩ := lv i e ⟨z, hz⟩
      rw [gp, if_neg e, if_neg q1] at hz
      rcases s.blk i z hz with ⟨h1, h2, h3⟩ | ⟨k, h1, h2, h3⟩
      · exact .inl ⟨by rw [hsol i e]; exact h1, by rw [hdim i e]; exact h2, h3⟩
      · have : k ≠ j := fun e' => q1 (s.inj i b j (.inl ⟨z, hz⟩) (.inl ⟨_, hg⟩) (e' ▸ h1) hb (.inr hgo))
        refine .inr ⟨k, by rw [hto i e]; exact h1, ?_, by rw [hgn i e q1]; exact h3⟩
        simp only [Heap.put, if_neg this]
        exact h2.mono (hk.or R) hls (fun _ h => by rw [hdim i e]; exact h)
  · by_cases e : i = H.length
    · subst e
      simp [VI.add, setAt] at hi
    · rw [hsol i e] at hi
      have := s.solt i hi
      rw [hto i e]
      exact ⟨by simp [wput_len]; omega, this.2⟩
  · by_cases e : i = H.length
    · subst e
      simp [VI.add, setAt] at hi
    · obtain ⟨q1, q2⟩ := lv i e ⟨_, h⟩
      rw [gp, if_neg e, if_neg q1] at h
      rw [hgn i e q1] at hi
      exact s.ice i hi c sl h
  · have : i ≠ j := fun e => by subst e; simp only [Heap.put] at hi; omega
    simp only [Heap.put, if_neg this]
    exact s.okM i hi
  · by_cases e : i = H.length
    · subst e
      rw [hself]
      intro e'
      obtain rfl := Option.some.inj e'
      exact (s.res j h).2 b (.inl ⟨_, hg⟩) hb
    · rw [hto i e]
      exact (s.res k h).2 i (ac i e hi).2
  · by_cases e' : i = b
    · subst e'
      simp [VI.add, VI.kill, setAt, show i ≠ H.length by omega]
    · rw [hgn i (by omega) e']
      exact h
  · obtain ⟨q1, q2⟩ := ac i (by omega) hl
    have : k ≠ j := fun e' => q1 (s.inj i b j q2 (.inl ⟨_, hg⟩) (e' ▸ hk') hb (.inr hgo))
    simp [Heap.put, this]

end Go.Proofs.Ytlcjmchhnbdepaa
end

section
/- W, fifth part: reading, freezing, elements. -/
set_option linter.all false
set_option linter.unusedSimpArgs false
namespace Go.Proofs.Ytlcjmchhnbdepaa

/-! ### Maps -/

mutual
theorem sc_eq' {M : Heap} {O : Nat → Prop} {κ : VI} : ∀ (v a : AV), sc v = true → VL M O κ v a → v = a
  | .bool _, a, _, h => by simp only [VL] at h; exact h.symm
  | .int .., a, _, h => by simp only [VL] at h; exact h.symm
  | .str _, a, _, h => by simp only [VL] at h; exact h.symm
  | .tuple cs, a, hs, h => by
    simp only [sc] at hs
    simp only [VL] at h
    obtain ⟨cs', rfl, h⟩ := h
    rw [scL_eq' cs cs' hs h]
  | .agg cs, a, hs, h => by
    simp only [sc] at hs
    simp only [VL] at h
    obtain ⟨cs', rfl, h⟩ := h
    rw [scL_eq' cs cs' hs h]
  | .undef, _, hs, _ => by simp [sc] at hs
  | .ptr _, _, hs, _ => by simp [sc] at hs
  | .slice .., _, hs, _ => by simp [sc] at hs
  | .map _, _, hs, _ => by simp [sc] at hs
  | .func _ _, _, hs, _ => by simp [sc] at hs
  | .nilFunc, _, hs, _ => by simp [sc] at hs
  | .list .., _, hs, _ => by simp [sc] at hs
  | .elem .., _, hs, _ => by simp [sc] at hs
  | .acc .., _, hs, _ => by simp [sc] at hs
theorem scL_eq' {M : Heap} {O : Nat → Prop} {κ : VI} : ∀ (v a : List AV), scL v = true → VLL M O κ v a → v = a
  | [], [], _, _ => rfl
  | [], _ :: _, _, h => by simp [VLL] at h
  | _ :: _, [], _, h => by simp [VLL] at h
  | v :: r, a :: l, hs, h => by
    simp only [scL] at hs
    split at hs
    case h_2 => cases hs
    rename_i hv
    simp only [VLL] at h
    rw [sc_eq' v a hv h.1, scL_eq' r l hs h.2]
end
theorem sc_eq {M : Heap} {O : Nat → Prop} {κ : VI} {v a : AV} (hs : sc v = true) (h : VL M O κ v a) : v = a := sc_eq' v a hs h
mutual
theorem sc_VL' {M : Heap} {O : Nat → Prop} {κ : VI} : ∀ (v : AV), sc v = true → VL M O κ v v
  | .bool _, _ => by simp [VL]
  | .int .., _ => by simp [VL]
  | .str _, _ => by simp [VL]
  | .tuple cs, hs => by
    simp only [sc] at hs
    simp only [VL]
    exact ⟨_, rfl, scL_VL' cs hs⟩
  | .agg cs, hs => by
    simp only [sc] at hs
    simp only [VL]
    exact ⟨_, rfl, scL_VL' cs hs⟩
  | .undef, hs => by simp [sc] at hs
  | .ptr _, hs => by simp [sc] at hs
  | .slice .., hs => by simp [sc] at hs
  | .map _, hs => by simp [sc] at hs
  | .func _ _, hs => by simp [sc] at hs
  | .nilFunc, hs => by simp [sc] at hs
  | .list .., hs => by simp [sc] at hs
  | .elem .., hs => by simp [sc] at hs
  | .acc .., hs => by simp [sc] at hs
theorem scL_VL' {M : Heap} {O : Nat → Prop} {κ : VI} : ∀ (v : List AV), scL v = true → VLL M O κ v v
  | [], _ => by simp [VLL]
  | v :: r, hs => by
    simp only [scL] at hs
    split at hs
    case h_2 => cases hs
    rename_i hv
    simp only [VLL]
    exact ⟨sc_VL' v hv, scL_VL' r hs⟩
end
theorem sc_VL {M : Heap} {O : Nat → Prop} {κ : VI} {v : AV} (hs : sc v = true) : VL M O κ v v := sc_VL' v hs
theorem scE_cons {p : AV × AV} {es : List (AV × AV)} (h : scE (p :: es) = true) : sc p.1 = true ∧ sc p.2 = true ∧ scE es = true := by
  simp only [scE] at h
  split at h
  · rename_i h1 h2
    exact ⟨h1, h2, h⟩
  · cases h
theorem scE_mk {p : AV × AV} {es : List (AV × AV)} (h1 : sc p.1 = true) (h2 : sc p.2 = true) (h : scE es = true) : scE (p :: es) = true := by
  simp only [scE, h1, h2]
  exact h
theorem find_sc {kd : Kd} {k : AV} : ∀ {es : List (AV × AV)} {i : Nat} {q : Nat × AV}, scE es = true → aFind kd k es i = some (some q) → sc q.2 = true
  | [], i, q, _, h => by simp [aFind] at h
  | p :: es, i, q, hs, h => by
    obtain ⟨h1, h2, h3⟩ := scE_cons hs
    simp only [aFind] at h
    split at h
    · simp only [Option.some.injEq] at h
      rw [← h]
      exact h2
    · exact find_sc h3 h
    · cases h
theorem scE_set {k v : AV} (hk : sc k = true) (hv : sc v = true) : ∀ {es : List (AV × AV)} {i : Nat}, scE es = true → scE (es.set i (k, v)) = true
  | [], i, _ => by simp [scE]
  | p :: es, 0, h => scE_mk hk hv (scE_cons h).2.2
  | p :: es, i + 1, h => scE_mk (scE_cons h).1 (scE_cons h).2.1 (scE_set hk hv (scE_cons h).2.2)
theorem scE_push {k v : AV} (hk : sc k = true) (hv : sc v = true) : ∀ {es : List (AV × AV)}, scE es = true → scE (es ++ [(k, v)]) = true
  | [], _ => scE_mk hk hv rfl
  | p :: es, h => scE_mk (scE_cons h).1 (scE_cons h).2.1 (scE_push hk hv (scE_cons h).2.2)
theorem scE_erase : ∀ {es : List (AV × AV)} {i : Nat}, scE es = true → scE (es.eraseIdx i) = true
  | [], i, _ => by simp [scE]
  | p :: es, 0, h => (scE_cons h).2.2
  | p :: es, i + 1, h => scE_mk (scE_cons h).1 (scE_cons h).2.1 (scE_erase (scE_cons h).2.2)
theorem VS.map_at {R : Nat → Prop} {ι : VI} {H : WH} {M : Heap} (s : VS R ι H M) {r : Nat} {y : AV} (h : VL M (OR R ι) ι (.map (some r)) y) {es : List (AV × AV)} (hg : wget H r = some (.map es)) : ∃ j, y = .map (some j) ∧ M.get j = some (.map es) ∧ scE es = true ∧ ι r = some j := by
  simp only [VL] at h
  obtain ⟨j, h1, rfl⟩ := h
  rcases s.blk r _ hg with ⟨_, _, _, q⟩ | ⟨j', h2, ⟨h3, _, h4⟩, _⟩
  · cases q
  · rw [h1] at h2
    obtain rfl := Option.some.inj h2
    exact ⟨j, rfl, h3, h4, h1⟩

theorem toBytes_rel {M : Heap} {O : Nat → Prop} {κ : VI} : ∀ {l l' : List AV} {s : List UInt8}, VLL M O κ l l' → toBytes l = some s → toBytes l' = some s
  | [], l', s, h, e => by
    cases l' with
    | nil => exact e
    | cons _ _ => simp [VLL] at h
  | v :: l, l', s, h, e => by
    cases l' with
    | nil => simp [VLL] at h
    | cons v' l' =>
      simp only [VLL] at h
      cases v <;> (try simp only [toBytes] at e) <;> first | (cases e; done) | skip
      rename_i k n
      cases k <;> (try simp only [toBytes] at e) <;> first | (cases e; done) | skip
      rw [h.1.eq rfl]
      simp only [toBytes]
      obtain ⟨t, h1, rfl⟩ := Option.map_eq_some_iff.1 e
      rw [toBytes_rel h.2 h1]
      rfl

theorem accC_len {w : Bool} {c : List AV} {o m : Nat} (h : o + m ≤ c.length) (hw : w = true → o = 0 ∧ m = c.length) : (accC w c o m).length = m := by
  cases w with
  | true => exact (hw rfl).2.symm
  | false => simp only [accC, List.length_take, List.length_drop]; omega

/-- The part of one's own, at the machine. -/
theorem accC_rel {M : Heap} {O : Nat → Prop} {κ : VI} {w : Bool} {c c' t : List AV} {o m : Nat} (r : VLL M O κ c c') (h : o + m ≤ c.length) (hw : w = true → o = 0 ∧ m = c.length) :
    VLL M O κ (accC w c o m) (((c' ++ t).drop o).take m) := by
  have hl := r.length
  have e : ((c' ++ t).drop o).take m = (c'.drop o).take m := by
    rw [List.drop_append_of_le_length (by omega), List.take_append_of_le_length (by simp only [List.length_drop]; omega)]
  rw [e]
  cases w with
  | true =>
    obtain ⟨rfl, rfl⟩ := hw rfl
    rw [List.drop_zero, List.take_of_length_le (by omega)]
    exact r
  | false => exact (r.drop o).take m

/-- What a slice of one's own is. -/
theorem VL.acc_at {R : Nat → Prop} {ι : VI} {H : WH} {M : Heap} (s : VS R ι H M) {b o sz n : Nat} {w : Bool} {a : AV} (h : VL M (OR R ι) ι (.acc b o sz n w) a) {c : List AV} {ro sl : Bool} (hg : wget H b = some (.cells c ro sl)) :
    o + n * sz ≤ c.length ∧ (w = true → o = 0 ∧ n * sz = c.length) ∧ ∃ p s' cap ex, a = .slice p s' n cap ex ∧ n ≤ cap ∧ (p ≠ none → s' = sz) ∧
      ((∃ j c' t ro' sl' L, ι b = some j ∧ M.get j = some (.cells (c' ++ t) ro' sl') ∧ (ro = false → ro' = false ∧ ι.gone b = false) ∧ ι.dim b = some (c.length, L) ∧ L ≤ (c' ++ t).length ∧ VLL M (OR R ι) (if sl then VI.none else ι) c c' ∧ p = some (j, o) ∧ o + cap * sz ≤ L) ∨
       (n = 0 ∧ cap = 0 ∧ ex = true ∧ ((∃ j c' t ro' sl' L, ι b = some j ∧ M.get j = some (.cells (c' ++ t) ro' sl') ∧ (ro = false → ro' = false ∧ ι.gone b = false) ∧ ι.dim b = some (c.length, L) ∧ L ≤ (c' ++ t).length ∧ VLL M (OR R ι) (if sl then VI.none else ι) c c') ∨ (ι.sol b = true ∧ c = [] ∧ sl = true)))) := by
  simp only [VL] at h
  obtain ⟨p, s', cap, ex, rfl, h1, h2, h3, m, L, h4, h5, h6, h7⟩ := h
  rcases h7 with ⟨j, k1, k2⟩ | ⟨k1, k2, k3, k4, k5⟩
  · obtain ⟨c', t, ro', sl', L', g1, g2, g3, g4, g5⟩ := s.at k1 hg
    rw [h4] at g3
    simp only [Option.some.injEq, Prod.mk.injEq] at g3
    obtain ⟨rfl, rfl⟩ := g3
    refine ⟨h5, h6, p, s', cap, ex, rfl, h1, h3, ?_⟩
    rcases k2 with ⟨k2, k3⟩ | ⟨k2, k3, k4⟩
    · exact .inl ⟨j, c', t, ro', sl', L, k1, g1, g2, h4, g4, g5, k2, k3⟩
    · exact .inr ⟨k2, k3, k4, .inl ⟨j, c', t, ro', sl', L, k1, g1, g2, h4, g4, g5⟩⟩
  · rcases s.blk b _ hg with ⟨q1, q2, ro', q3⟩ | ⟨j, q1, _⟩
    · cases q3
      rw [h4] at q2
      simp only [Option.some.injEq, Prod.mk.injEq] at q2
      obtain ⟨rfl, rfl⟩ := q2
      exact ⟨h5, h6, p, s', cap, ex, rfl, h1, h3, .inr ⟨k2, k3, k4, .inr ⟨k1, rfl, rfl⟩⟩⟩
    · rw [(s.solt b k1).2] at q1
      cases q1

theorem wL_ok {R : Nat → Prop} {ι : VI} {H : WH} {M : Heap} (s : VS R ι H M) {ρ σ : Nat → AV} (h : ∀ t, VL M (OR R ι) ι (ρ t) (σ t)) {o : LOp} (hc : o.okc = true) {v : AV} (hv : wL (o.sub ρ) H = some v) : ∃ a, aL (o.sub σ) [] M = some a ∧ VL M (OR R ι) ι v a := by
  cases o with
  | load agg n x =>
    have hx := ev_rel h hc
    simp only [LOp.sub, wL, aL] at hv ⊢
    generalize (x.sub ρ).ev [] = X at *
    generalize (x.sub σ).ev [] = Y at *
    split at hv
    · cases hv
    rename_i hn0
    cases X with
    | elem cs =>
      simp only [VL] at hx
      obtain ⟨b, o, c, ro, sl, rfl, g1, g2, g3, g4⟩ := hx
      simp only at hv
      have key : ∀ g m, cPart g 0 m cs = some v → (g = true → 0 < m) → ∃ a, aLoad g m (.ptr (some (b, o))) M = some a ∧ VL M (OR R ι) ι v a := by
        intro g m hp hm
        obtain ⟨h1, h2⟩ := cPart_eq hp
        cases g with
        | true =>
          simp only [aPart, if_true, Option.some.injEq, List.drop_zero] at h1
          subst h1
          have hle := h2 rfl
          simp only [List.drop_zero] at hle
          have hlen := g4.length
          have hco : o + m ≤ c.length := by
            have := hm rfl
            simp only [List.length_take, List.length_drop] at hlen
            omega
          refine ⟨.agg ((c.drop o).take m), ?_, ?_⟩
          · simp only [aLoad, if_true, Heap.read, g1]
            rw [if_pos hco]
            rfl
          · simp only [VL]
            refine ⟨_, rfl, ?_⟩
            have := (g4.take m).lift (κ := ι)
            rwa [List.take_take, Nat.min_eq_left hle] at this
        | false =>
          simp only [aPart, Bool.false_eq_true, if_false] at h1
          obtain ⟨a, h3, h4⟩ := g4.get 0 v h1
          refine ⟨a, ?_, VL.mono (.refl _ _) _ _ _ _ (VI.Le.of_none _ _) h4⟩
          simp only [aLoad, Bool.false_eq_true, if_false, g1]
          rw [List.getElem?_take, List.getElem?_drop] at h3
          split at h3
          · simpa using h3
          · cases h3
      refine key agg n hv fun e => ?_
      subst e
      simp only [Bool.true_and] at hn0
      exact Nat.pos_of_ne_zero fun e => by subst e; simp at hn0
    | ptr p =>
      cases p with
      | none => simp at hv
      | some q =>
        simp only [VL] at hx
        obtain ⟨j, h1, rfl⟩ := hx
        simp only at hv
        split at hv
        case h_2 => cases hv
        rename_i c ro sl hg
        obtain ⟨c', t, ro', sl', L, h2, _, _, _, h3⟩ := s.at h1 hg
        obtain ⟨h4, h5⟩ := cPart_eq hv
        have hl := h3.length
        cases agg with
        | true =>
          simp only [aPart, if_true, Option.some.injEq] at h4
          subst h4
          have := h5 rfl
          simp only [List.length_drop] at this
          have hn : n ≠ 0 := fun e => by subst e; simp at hn0
          refine ⟨.agg ((c'.drop q.2).take n), ?_, by simp only [VL]; exact ⟨_, rfl, (h3.kap.drop _).take _⟩⟩
          simp only [aLoad, if_true, Heap.read, h2]
          rw [if_pos (by simp only [List.length_append]; omega), List.drop_append_of_le_length (by omega), List.take_append_of_le_length (by simp only [List.length_drop]; omega)]
          rfl
        | false =>
          simp only [aPart, Bool.false_eq_true, if_false] at h4
          obtain ⟨a, h6, h7⟩ := h3.kap.get _ _ h4
          refine ⟨a, ?_, h7⟩
          simp only [aLoad, Bool.false_eq_true, if_false, h2]
          rw [List.getElem?_append_left (by rw [← hl]; exact (List.getElem?_eq_some_iff.1 h4).1)]
          exact h6
    | _ => simp at hv
  | bytesStr x =>
    have hx := ev_rel h hc
    simp only [LOp.sub, wL, aL] at hv ⊢
    generalize (x.sub ρ).ev [] = X at *
    generalize (x.sub σ).ev [] = Y at *
    split at hv
    · obtain ⟨t, h1, rfl⟩ := Option.map_eq_some_iff.1 hv
      simp only [VL] at hx
      rcases hx with ⟨_, rfl, s', rfl⟩ | ⟨b, o, cap, ex', rfl, q1, q2, q3, q4⟩
      · simp only [toBytes, Option.some.injEq] at h1
        subst h1
        exact ⟨.str [], rfl, by simp [VL]⟩
      · refine ⟨.str t, ?_, by simp [VL]⟩
        simp only [aBytesStr]
        split
        · rename_i hl
          subst hl
          have : ‹List AV› = [] := List.eq_nil_of_length_eq_zero (by simpa using q3)
          subst this
          simp only [toBytes, Option.some.injEq] at h1
          rw [h1]
        · rename_i hl
          obtain ⟨c, ro, sl, g1, g2, g3, g4, g5⟩ := q4 hl
          simp only [Nat.mul_one] at g4 g5
          simp only [Heap.read, g1, if_pos g4, Option.bind_some, toBytes_rel g5 h1, Option.map_some]
    · split at hv
      case h_2 => cases hv
      rename_i b off n w _ c ro sl hg
      obtain ⟨t, h1, rfl⟩ := Option.map_eq_some_iff.1 hv
      obtain ⟨k1, k2, p, s', cap, ex, rfl, k3, k4, k5⟩ := VL.acc_at s hx hg
      simp only [Nat.mul_one] at k1 k2
      refine ⟨.str t, ?_, by simp [VL]⟩
      have hn0 : n = 0 → t = [] := fun e => by
        subst e
        have : (accC w c off 0).length = 0 := accC_len k1 k2
        rw [List.eq_nil_of_length_eq_zero this] at h1
        simpa [toBytes] using h1.symm
      rcases k5 with ⟨j, c', t', ro', sl', L, g1, g2, g3, g4, g5, g6, rfl, g7⟩ | ⟨rfl, rfl, rfl, g⟩
      · obtain rfl := k4 (by simp)
        simp only [aBytesStr]
        split
        · rename_i hl
          rw [hn0 hl]
        · have hl := g6.length
          simp only [Nat.mul_one] at g7
          have := toBytes_rel (accC_rel (t := t') g6.kap k1 k2) h1
          simp only [Heap.read, g2, if_pos (show off + n ≤ (c' ++ t').length by simp only [List.length_append]; omega), Option.bind_some, this, Option.map_some]
      · rw [hn0 rfl]
        cases p with
        | none => rfl
        | some p =>
          obtain rfl := k4 (by simp)
          simp [aBytesStr]
    · obtain rfl := Option.some.inj hv
      simp only [VL] at hx
      obtain ⟨_, s', rfl⟩ := hx
      exact ⟨.str [], rfl, by simp [VL]⟩
    · cases hv
  | mapLen x =>
    have hx := ev_rel h hc
    simp only [LOp.sub, wL, aL] at hv ⊢
    generalize (x.sub ρ).ev [] = X at *
    generalize (x.sub σ).ev [] = Y at *
    split at hv
    case h_2 => cases hv
    rename_i r
    split at hv
    case h_2 => cases hv
    rename_i es hg
    obtain rfl := Option.some.inj hv
    obtain ⟨j, rfl, hm, _⟩ := s.map_at hx hg
    exact ⟨.int .i64 es.length, by simp only [aEntries, hm, Option.map_some], by simp [VL]⟩
  | lookup kd ok z x w =>
    simp only [LOp.okc, Bool.and_eq_true] at hc
    have hx := ev_rel h hc.1.2
    have hw := ev_rel h hc.2
    simp only [LOp.sub, wL, aL] at hv ⊢
    generalize (x.sub ρ).ev [] = X at *
    generalize (x.sub σ).ev [] = Y at *
    generalize (w.sub ρ).ev [] = X2 at *
    generalize (w.sub σ).ev [] = Y2 at *
    split at hv
    case h_2 => cases hv
    rename_i r
    split at hv
    case h_2 => cases hv
    rename_i es hg hs
    obtain ⟨j, rfl, hm, he, _⟩ := s.map_at hx hg
    obtain rfl := sc_eq hs hw
    refine ⟨v, by simp only [aLookup, aEntries, hm, Option.bind_some]; exact hv, ?_⟩
    unfold mapAt at hv
    obtain ⟨f, hf, rfl⟩ := Option.map_eq_some_iff.1 hv
    have hz : VL M (OR R ι) ι z z := VL.const z hc.1.1
    cases f with
    | none =>
      cases ok
      · exact hz
      · simp only [if_true, VL]
        exact ⟨_, rfl, by simp only [VLL, VL]; exact ⟨hz, trivial, trivial⟩⟩
    | some q =>
      have := sc_VL (M := M) (O := OR R ι) (κ := ι) (find_sc he hf)
      cases ok
      · exact this
      · simp only [if_true, VL]
        exact ⟨_, rfl, by simp only [VLL, VL]; exact ⟨this, trivial, trivial⟩⟩

end Go.Proofs.Ytlcjmchhnbdepaa
end

section
/- W, sixth part: freezing, and what is one's own. -/
set_option linter.all false
set_option linter.unusedSimpArgs false
namespace Go.Proofs.Ytlcjmchhnbdepaa

theorem hasN_iff : ∀ {l : List Nat} {b : Nat}, hasN l b = true ↔ b ∈ l
  | [], b => by simp [hasN]
  | a :: r, b => by
    simp only [hasN, List.mem_cons]
    cases h : Nat.beq a b with
    | true => simp [Nat.eq_of_beq_eq_true h]
    | false =>
      have : b ≠ a := fun e => by subst e; simp at h
      simp only
      rw [hasN_iff (l := r)]
      simp [this]

def VI.ice (ι : VI) (S : List Nat) : VI := ⟨ι.to, ι.sol, fun i => ι.gone i || hasN S i, ι.dim⟩

theorem own_ice {ι : VI} {S : List Nat} {j : Nat} (h : own (ι.ice S) j) : own ι j := by
  obtain ⟨i, h1, h2⟩ := h
  simp only [VI.ice, Bool.or_eq_false_iff] at h2
  exact ⟨i, h1, h2.1⟩

theorem wice_get : ∀ (S : List Nat) (H : WH) (i : Nat), wget (wice H S) i = if hasN S i = true then iceB (wget H i) else wget H i
  | [], H, i => by simp [wice, hasN]
  | b :: S, H, i => by
    simp only [wice, wice_get S, wget_put, hasN]
    have ib : ∀ x : Option Blk, iceB (iceB x) = iceB x := fun x => by
      cases x with
      | none => rfl
      | some x => cases x <;> rfl
    by_cases e : i = b
    · subst e
      simp only [Nat.beq_refl]
      by_cases hl : i < H.length
      · simp only [hl, and_self, if_true]
        split <;> simp [ib]
      · simp only [hl, and_false, if_false, wget_ge (Nat.le_of_not_lt hl)]
        split <;> simp [iceB]
    · have : Nat.beq b i = false := by
        cases hh : Nat.beq b i with
        | false => rfl
        | true => exact absurd (Nat.eq_of_beq_eq_true hh).symm e
      simp [this, e]

theorem wice_len : ∀ (S : List Nat) (H : WH), (wice H S).length = H.length
  | [], H => rfl
  | b :: S, H => by simp only [wice, wice_len S, wput_len]

theorem iceB_some {x : Option Blk} {y : Blk} (h : iceB x = some y) : ∃ z, x = some z ∧ (y = z ∨ ∃ c ro sl, z = .cells c ro sl ∧ y = .cells c true sl) := by
  cases x with
  | none => simp [iceB] at h
  | some z =>
    cases z with
    | cells c ro sl => simp only [iceB, Option.some.injEq] at h; exact ⟨_, rfl, .inr ⟨c, ro, sl, rfl, h.symm⟩⟩
    | map es => simp [iceB] at h

theorem ice_le (ι : VI) (S : List Nat) (T : Nat → Prop) : VI.Le ι (ι.ice S) T := fun _ _ => ⟨fun _ h => ⟨h, fun _ h => h⟩, fun h => ⟨h, fun _ h => h⟩⟩

theorem VS.iced {R : Nat → Prop} {ι : VI} {H : WH} {M : Heap} (s : VS R ι H M) (S : List Nat) (hS : ∀ b ∈ S, ∃ x, wget H b = some x) : VS R (ι.ice S) (wice H S) M ∧ Stp H.length [] ι H M (ι.ice S) (wice H S) M := by
  have hk : Keeps M (own ι) M (own (ι.ice S)) := ⟨Nat.le_refl _, fun b _ h => ⟨rfl, fun k => h (own_ice k)⟩⟩
  have lv : ∀ k, (∃ z, wget (wice H S) k = some z) → ∃ z, wget H k = some z := fun k ⟨z, hz⟩ => by
    rw [wice_get] at hz
    split at hz
    · obtain ⟨y, hy, _⟩ := iceB_some hz
      exact ⟨y, hy⟩
    · exact ⟨z, hz⟩
  have ac : ∀ i, act (ι.ice S) (wice H S) i → act ι H i := fun i h => h.imp (lv i) (fun h => by
    simp only [VI.ice, Bool.or_eq_false_iff] at h
    exact h.1)
  refine ⟨⟨fun i j h => by rw [wice_len]; exact s.lt i j h, fun i i' j h h' e e' g => s.inj i i' j (ac i h) (ac i' h') e e' (g.imp (fun g => by simp only [VI.ice, Bool.or_eq_false_iff] at g; exact g.1) (fun g => by simp only [VI.ice, Bool.or_eq_false_iff] at g; exact g.1)), fun i z hz => ?_, fun i h => by rw [wice_len]; exact s.solt i h, fun i hi c sl h => ?_, s.okM, fun j h => ⟨(s.res j h).1, fun i hi => (s.res j h).2 i (ac i hi)⟩⟩,
    ⟨hk, ice_le _ _ _, fun i _ h => by simp only [VI.ice, h, Bool.true_or], fun _ _ => rfl, fun _ _ => rfl, fun i _ h => by
      have : hasN S i = false := by
        cases e : hasN S i with
        | false => rfl
        | true => obtain ⟨x, hx⟩ := hS i (hasN_iff.1 e); rw [h] at hx; cases hx
      simp only [VI.ice, this, Bool.or_false], fun i _ => lv i, fun _ _ _ _ _ _ => rfl, by rw [wice_len]; exact Nat.le_refl _⟩⟩
  · have hbl : ∀ {d x y}, BL M (OR R ι) ι d x y → BL M (OR R (ι.ice S)) (ι.ice S) d x y := fun h => BL.mono (κ := ι) (κ' := ι.ice S) (hk.or R) (fun T => ice_le _ _ _) (fun _ h => h) h
    rw [wice_get] at hz
    split at hz
    · rename_i hS
      obtain ⟨y, hy, h⟩ := iceB_some hz
      rcases s.blk i y hy with ⟨h1, h2, ro, h3⟩ | ⟨j, h1, h2, h3⟩
      · rcases h with rfl | ⟨c, ro', sl, rfl, rfl⟩
        · exact .inl ⟨h1, h2, ro, h3⟩
        · cases h3
          exact .inl ⟨h1, h2, true, rfl⟩
      · rcases h with rfl | ⟨c, ro', sl, rfl, rfl⟩
        · cases z with
          | cells c ro' sl =>
            rw [hy] at hz
            simp only [iceB, Option.some.injEq, Blk.cells.injEq] at hz
            obtain ⟨_, rfl, _⟩ := hz
            exact .inr ⟨j, h1, hbl h2, fun h => by cases h⟩
          | map es =>
            rw [hy] at hz
            simp [iceB] at hz
        · obtain ⟨c', t, ro'', sl', L, g1, g2, g3⟩ := h2
          exact .inr ⟨j, h1, hbl ⟨c', t, ro'', sl', L, g1, (fun h => by cases h), g3⟩, fun h => by cases h⟩
    · rename_i hS
      rcases s.blk i z hz with h | ⟨j, h1, h2, h3⟩
      · exact .inl h
      · refine .inr ⟨j, h1, hbl h2, fun h => ?_⟩
        simp only [VI.ice, h3 h, Bool.false_or]
        simpa using hS
  · rw [wice_get] at h
    simp only [VI.ice, Bool.or_eq_true] at hi
    split at h
    · obtain ⟨y, hy, h'⟩ := iceB_some h
      rcases h' with rfl | ⟨_, _, _, _, h'⟩
      · rw [hy] at h
        simp [iceB] at h
      · cases h'
    · rename_i hS
      exact s.ice i (hi.resolve_right hS) c sl h

theorem frzL_cons {g : AV → Option (AV × List Nat)} {v : AV} {l : List AV} {p : List AV × List Nat} (h : frzL g (v :: l) = some p) : ∃ q r, g v = some q ∧ frzL g l = some r ∧ p = (q.1 :: r.1, q.2 ++ r.2) := by
  simp only [frzL] at h
  split at h
  · rename_i q r h1 h2
    exact ⟨q, r, h1, h2, (Option.some.inj h).symm⟩
  · cases h

def nestI (nested : Bool) (κ : VI) : VI := if nested then VI.none else κ

theorem frzL_rel {M : Heap} {O O' : Nat → Prop} {κ κ' : VI} {g : AV → Option (AV × List Nat)} {P : Nat → Prop} {nested : Bool}
    (hg : ∀ v p a, g v = some p → VL M O κ v a → (∀ b ∈ p.2, P b) → VL M O' (nestI nested κ') p.1 a) :
    ∀ (l : List AV) (p : List AV × List Nat) (r : List AV), frzL g l = some p → VLL M O κ l r → (∀ b ∈ p.2, P b) → VLL M O' (nestI nested κ') p.1 r
  | [], p, r, h, hr, _ => by
    simp only [frzL, Option.some.injEq] at h
    subst h
    cases r with
    | nil => simp [VLL]
    | cons _ _ => simp [VLL] at hr
  | v :: l, p, r, h, hr, hP => by
    obtain ⟨q, q', h1, h2, rfl⟩ := frzL_cons h
    cases r with
    | nil => simp [VLL] at hr
    | cons a r =>
      simp only [VLL] at hr ⊢
      exact ⟨hg v q a h1 hr.1 (fun b hb => hP b (by simp [hb])), frzL_rel hg l q' r h2 hr.2 (fun b hb => hP b (by simp [hb]))⟩

theorem frzL_live {g : AV → Option (AV × List Nat)} {P : Nat → Prop} (hg : ∀ v p, g v = some p → ∀ b ∈ p.2, P b) : ∀ (l : List AV) (p : List AV × List Nat), frzL g l = some p → ∀ b ∈ p.2, P b
  | [], p, h, b, hb => by
    simp only [frzL, Option.some.injEq] at h
    subst h
    cases hb
  | v :: l, p, h, b, hb => by
    obtain ⟨q, q', h1, h2, rfl⟩ := frzL_cons h
    simp only [List.mem_append] at hb
    exact hb.elim (hg v q h1 b) (frzL_live hg l q' h2 b)

theorem frz_live {H : WH} : ∀ (k : Nat) (nested : Bool) (v : AV) (p : AV × List Nat), frz H k nested v = some p → ∀ b ∈ p.2, ∃ x, wget H b = some x
  | 0, nested, v, p, h => by simp [frz] at h
  | k + 1, nested, v, p, h => by
    intro b hb
    simp only [frz] at h
    split at h
    · split at h
      case h_2 => cases h
      rename_i hg
      split at h
      · obtain rfl := Option.some.inj h
        simp only [List.mem_singleton] at hb
        exact ⟨_, hb ▸ hg⟩
      · split at h
        case h_2 => cases h
        split at h
        case h_2 => cases h
        rename_i q hq
        obtain rfl := Option.some.inj h
        simp only [List.mem_cons] at hb
        rcases hb with rfl | hb
        · exact ⟨_, hg⟩
        · exact frzL_live (fun v p => frz_live k true v p) _ _ hq b hb
    · obtain rfl := Option.some.inj h
      cases hb
    · cases h
    · obtain rfl := Option.some.inj h
      cases hb
    · cases h
    · split at h
      · cases h
      · obtain rfl := Option.some.inj h
        cases hb
    · split at h
      · cases h
      · obtain rfl := Option.some.inj h
        cases hb
    · split at h
      case h_2 => cases h
      rename_i q hq
      obtain rfl := Option.some.inj h
      exact frzL_live (fun v p => frz_live k nested v p) _ _ hq b hb
    · split at h
      case h_2 => cases h
      rename_i q hq
      obtain rfl := Option.some.inj h
      exact frzL_live (fun v p => frz_live k nested v p) _ _ hq b hb
    · split at h
      case h_2 => cases h
      rename_i q hq
      obtain rfl := Option.some.inj h
      exact frzL_live (fun v p => frz_live k nested v p) _ _ hq b hb
    · obtain rfl := Option.some.inj h
      cases hb

theorem idsOf_else : ∀ {v : AV}, (∀ b o sz n w, v = .acc b o sz n w → False) → (∀ q, v = .ptr (some q) → False) → (∀ r, v = .map (some r) → False) → (∀ f cs, v = .func f cs → False) → (∀ cs, v = .agg cs → False) → (∀ cs, v = .tuple cs → False) → idsOf v = []
  | .undef, _, _, _, _, _, _ => rfl
  | .bool _, _, _, _, _, _, _ => rfl
  | .int _ _, _, _, _, _, _, _ => rfl
  | .str _, _, _, _, _, _, _ => rfl
  | .ptr none, _, _, _, _, _, _ => rfl
  | .ptr (some q), _, h, _, _, _, _ => (h q rfl).elim
  | .slice _ _ _ _ _, _, _, _, _, _, _ => rfl
  | .map none, _, _, _, _, _, _ => rfl
  | .map (some r), _, _, h, _, _, _ => (h r rfl).elim
  | .func f cs, _, _, _, h, _, _ => (h f cs rfl).elim
  | .nilFunc, _, _, _, _, _, _ => rfl
  | .agg cs, _, _, _, _, h, _ => (h cs rfl).elim
  | .tuple cs, _, _, _, _, _, h => (h cs rfl).elim
  | .list .., _, _, _, _, _, _ => rfl
  | .elem _, _, _, _, _, _, _ => rfl
  | .acc b o sz n w, h, _, _, _, _, _ => (h b o sz n w rfl).elim

theorem frzL_len {g : AV → Option (AV × List Nat)} : ∀ (l : List AV) (p : List AV × List Nat), frzL g l = some p → p.1.length = l.length
  | [], p, h => by
    simp only [frzL, Option.some.injEq] at h
    subst h
    rfl
  | v :: l, p, h => by
    obtain ⟨q, q', h1, h2, rfl⟩ := frzL_cons h
    simp [frzL_len l q' h2]

section
variable {R : Nat → Prop} {ι : VI} {H : WH} {M : Heap} (s : VS R ι H M) {O' : Nat → Prop} (hO : ∀ j, O' j → OR R ι j) {κ' : VI} (hle : VI.Le ι κ' (fun _ => True))
include s hO hle

/-- A slice of one's own that is frozen. -/
theorem frz_acc {b o sz n : Nat} {w : Bool} {a : AV} (h : VL M (OR R ι) ι (.acc b o sz n w) a) {c : List AV} {ro sl : Bool} (hg : wget H b = some (.cells c ro sl)) (hb : ∀ j, ι b = some j → ¬ O' j) {κ : VI}
    {cs : List AV} (hcs : cs.length = n * sz) (hr : ∀ c' t, VLL M (OR R ι) (if sl then VI.none else ι) c c' → VLL M O' VI.none cs (((c' ++ t).drop o).take (n * sz))) : VL M O' κ (.list sz n cs false) a := by
  obtain ⟨k1, k2, p, s', cap, ex, rfl, k3, k4, k5⟩ := VL.acc_at s h hg
  simp only [VL]
  rcases k5 with ⟨j, c', t', ro', sl', L, g1, g2, g3, g4, g5, g6, rfl, g7⟩ | ⟨rfl, rfl, rfl, g⟩
  · obtain rfl := k4 (by simp)
    have hl := g6.length
    refine .inr ⟨j, o, cap, ex, rfl, k3, (fun h => by cases h), hcs, fun _ => ⟨_, ro', sl', g2, hb j g1, (s.lt b j g1).2, by simp only [List.length_append]; omega, hr c' t' g6⟩⟩
  · rw [Nat.zero_mul] at hcs
    obtain rfl := List.eq_nil_of_length_eq_zero hcs
    cases p with
    | none => exact .inl ⟨rfl, rfl, s', rfl⟩
    | some p =>
      obtain rfl := k4 (by simp)
      exact .inr ⟨p.1, p.2, 0, true, rfl, Nat.le_refl _, (fun h => by cases h), by simp, fun h => absurd rfl h⟩

theorem frz_ok : ∀ (k : Nat) (nested : Bool) (v : AV) (p : AV × List Nat) (a : AV), frz H k nested v = some p → VL M (OR R ι) ι v a → (∀ b ∈ p.2, ∀ j, ι b = some j → ¬ O' j) → VL M O' (nestI nested κ') p.1 a
  | 0, nested, v, p, a, h, hv, hP => by simp [frz] at h
  | k + 1, nested, v, p, a, h, hv, hP => by
    have hk : Keeps M (OR R ι) M O' := ⟨Nat.le_refl _, fun b _ h => ⟨rfl, fun k => h (hO b k)⟩⟩
    have nest : ∀ {l p r nested}, frzL (frz H k nested) l = some p → VLL M (OR R ι) ι l r → (∀ b ∈ p.2, ∀ j, ι b = some j → ¬ O' j) → VLL M O' (nestI nested κ') p.1 r := fun {l p r nested} h1 h2 h3 =>
      frzL_rel (fun v p a => frz_ok k nested v p a) l p r h1 h2 h3
    simp only [frz] at h
    split at h
    · rename_i b o sz n w
      split at h
      case h_2 => cases h
      rename_i c ro sl hg
      obtain ⟨k1, k2, _⟩ := VL.acc_at s hv hg
      split at h
      · obtain rfl := Option.some.inj h
        refine frz_acc s hO hle hv hg (hP b (by simp)) (accC_len k1 k2) fun c' t hc => ?_
        simp only [if_true] at hc
        exact accC_rel (VLL.mono hk _ _ _ _ (.refl _ _) hc) k1 k2
      · split at h
        case h_2 => cases h
        split at h
        case h_2 => cases h
        rename_i q hq
        obtain rfl := Option.some.inj h
        obtain ⟨k3, k4⟩ := k2 rfl
        refine frz_acc s hO hle hv hg (hP b (by simp)) (by rw [frzL_len _ _ hq, k4]) fun c' t hc => ?_
        simp only [Bool.false_eq_true, if_false] at hc
        have := nest hq hc (fun b hb => hP b (by simp [hb]))
        have hl := hc.length
        rw [k3, List.drop_zero, k4, hl, List.take_left']
        · exact this
        · rfl
    · obtain rfl := Option.some.inj h
      simp only [VL] at hv ⊢
      exact .inl ⟨trivial, trivial, hv.2⟩
    · cases h
    · obtain rfl := Option.some.inj h
      have := VL.mono hk _ (nestI nested κ') _ _ (fun i hi => by simp [idsOf] at hi) hv
      simp only [VL] at this ⊢
      rcases this with this | ⟨b, o, cap, ex', h1, h2, h3, h4⟩
      · exact .inl this
      · exact .inr ⟨b, o, cap, ex', h1, h2, (fun h => by cases h), h4⟩
    · cases h
    · split at h
      · cases h
      · obtain rfl := Option.some.inj h
        simp only [VL, nestI, Bool.false_eq_true, if_false] at hv ⊢
        obtain ⟨j, h1, h2⟩ := hv
        exact ⟨j, ((hle _ trivial).1 j h1).1, h2⟩
    · split at h
      · cases h
      · obtain rfl := Option.some.inj h
        simp only [VL, nestI, Bool.false_eq_true, if_false] at hv ⊢
        obtain ⟨j, h1, h2⟩ := hv
        exact ⟨j, ((hle _ trivial).1 j h1).1, h2⟩
    · split at h
      case h_2 => cases h
      rename_i q hq
      obtain rfl := Option.some.inj h
      simp only [VL] at hv ⊢
      obtain ⟨cs', h1, h2⟩ := hv
      exact ⟨cs', h1, nest hq h2 hP⟩
    · split at h
      case h_2 => cases h
      rename_i q hq
      obtain rfl := Option.some.inj h
      simp only [VL] at hv ⊢
      obtain ⟨cs', h1, h2⟩ := hv
      exact ⟨cs', h1, nest hq h2 hP⟩
    · split at h
      case h_2 => cases h
      rename_i q hq
      obtain rfl := Option.some.inj h
      simp only [VL] at hv ⊢
      obtain ⟨cs', h1, h2⟩ := hv
      exact ⟨cs', h1, nest hq h2 hP⟩
    · obtain rfl := Option.some.inj h
      have hid : idsOf v = [] := by
        rename_i e1 _ _ _ _ e2 e3 e4 e5 e6
        exact idsOf_else e1 e2 e3 e4 e5 e6
      exact VL.mono hk _ (nestI nested κ') _ _ (fun i hi => by rw [hid] at hi; cases hi) hv
end

end Go.Proofs.Ytlcjmchhnbdepaa
end
