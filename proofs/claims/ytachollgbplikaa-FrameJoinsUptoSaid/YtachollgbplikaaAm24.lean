/- The abstract machine, twenty-fourth part: words for running code symbolically by simp. -/
import Derived.Test.YtachollgbplikaaAm22
import Derived.Test.YtachollgbplikaaAm23
set_option linter.unusedVariables false
set_option linter.unusedSimpArgs false
namespace Go.Proofs.Ytachollgbplikaa

theorem look_cons (u t : Nat) (v : AV) (r : Fast) : look ((u, v) :: r) t = if u = t then v else look r t := by
  simp only [look]
  cases hb : Nat.beq u t with
  | true => rw [if_pos (Nat.eq_of_beq_eq_true hb)]
  | false => rw [if_neg (fun h => by subst h; rw [Nat.beq_refl] at hb; cases hb)]

theorem bput_some {n d : Nat} (v : AV) (l : Fast) (h : d < n) : bput n (some d) v l = (d, v) :: l := by
  have : Nat.blt d n = true := by simpa [Nat.blt_eq] using h
  simp [bput, this]

theorem bput_none (n : Nat) (v : AV) (l : Fast) : bput n none v l = l := rfl

theorem bops_nil (C : ACalls) (n : Nat) (l : Fast) (M : Heap) : bops C n [] l M = some (l, M) := rfl

/-- An operation that is always wanted. -/
theorem bops_cons (C : ACalls) (n : Nat) (dst : Option Nat) (op : AOp) (r : List AOper) (l : Fast) (M : Heap) :
    bops C n ({ dst := dst, op := op, guard := none } :: r) l M = match aop C (op.sub (look l)) [] M with
      | some p => bops C n r (bput n dst p.1 l) p.2
      | none => none := by
  simp only [bops, bwanted]
  split <;> simp [force_eq, *]

theorem bops_guard (C : ACalls) (n : Nat) (dst : Option Nat) (op : AOp) (t : Nat) (want : Bool) (r : List AOper) (l : Fast) (M : Heap) :
    bops C n ({ dst := dst, op := op, guard := some (t, want) } :: r) l M = match bwanted (some (t, want)) l with
      | some true => (match aop C (op.sub (look l)) [] M with
        | some p => bops C n r (bput n dst p.1 l) p.2
        | none => none)
      | some false => bops C n r (bput n dst (.tuple []) l) M
      | none => none := by
  simp only [bops]
  split
  · rename_i h
    rw [h]
    simp only
    split <;> simp [force_eq, *]
  · rename_i h
    rw [h]
  · rename_i h
    rw [h]

theorem bloop_succ (body : Fast → Heap → BOut) (keep : List Nat) (k : Nat) (l : Fast) (M : Heap) : bloop body keep (k + 1) l M = match body (bkeep l keep) M with
    | some (.normal, l', M') => bloop body keep k l' M'
    | r => r := rfl

theorem bkeep_nil (l : Fast) : bkeep l [] = [] := rfl
theorem bkeep_cons (l : Fast) (t : Nat) (r : List Nat) : bkeep l (t :: r) = (t, look l t) :: bkeep l r := rfl

theorem bexec_reg (C : ACalls) (K n : Nat) (ops : List AOper) (l : Fast) (M : Heap) : bexec C K n (.reg ops) l M = (bops C n ops l M).map fun p => (.normal, p) := rfl
theorem bexec_seq (C : ACalls) (K n : Nat) (a b : ACode) (l : Fast) (M : Heap) : bexec C K n (.seq a b) l M = match bexec C K n a l M with
    | some (.normal, l', M') => bexec C K n b l' M'
    | r => r := rfl
theorem bexec_block (C : ACalls) (K n id : Nat) (c : ACode) (l : Fast) (M : Heap) : bexec C K n (.block id c) l M = match bexec C K n c l M with
    | some (.exit i, l', M') => if i = id then some (.normal, l', M') else some (.exit i, l', M')
    | r => r := rfl
/-- A branch on a Bool that is known as a term. -/
theorem bexec_cond (C : ACalls) (K n : Nat) (c : AX) (a b : ACode) (l : Fast) (M : Heap) (v : Bool) (h : (c.sub (look l)).ev [] = .bool v) :
    bexec C K n (.cond c a b) l M = if v then bexec C K n a l M else bexec C K n b l M := by
  simp only [bexec, h]
  cases v <;> rfl

/-! ### Whole numbers -/

theorem aI_add (k : IntKind) (x y : Int) : aInts .add k x y = some (.int k (k.wrap (x + y))) := id rfl
theorem aI_sub (k : IntKind) (x y : Int) : aInts .sub k x y = some (.int k (k.wrap (x - y))) := id rfl
theorem aI_mul (k : IntKind) (x y : Int) : aInts .mul k x y = some (.int k (k.wrap (x * y))) := id rfl
theorem aI_eql (k : IntKind) (x y : Int) : aInts .eql k x y = some (.bool (x == y)) := id rfl
theorem aI_neq (k : IntKind) (x y : Int) : aInts .neq k x y = some (.bool (x != y)) := id rfl
theorem aI_lss (k : IntKind) (x y : Int) : aInts .lss k x y = some (.bool (x < y)) := id rfl
theorem aI_leq (k : IntKind) (x y : Int) : aInts .leq k x y = some (.bool (x ≤ y)) := id rfl
theorem aI_gtr (k : IntKind) (x y : Int) : aInts .gtr k x y = some (.bool (x > y)) := id rfl
theorem aI_geq (k : IntKind) (x y : Int) : aInts .geq k x y = some (.bool (x ≥ y)) := id rfl
def ixor (k : IntKind) (x y : Int) : Int := k.wrap (BitVec.ofInt k.bits x ^^^ BitVec.ofInt k.bits y).toNat
def iand (k : IntKind) (x y : Int) : Int := k.wrap (BitVec.ofInt k.bits x &&& BitVec.ofInt k.bits y).toNat
def ior (k : IntKind) (x y : Int) : Int := k.wrap (BitVec.ofInt k.bits x ||| BitVec.ofInt k.bits y).toNat
theorem aI_xor (k : IntKind) (x y : Int) : aInts .xor k x y = some (.int k (ixor k x y)) := id rfl
theorem aI_and (k : IntKind) (x y : Int) : aInts .and k x y = some (.int k (iand k x y)) := id rfl
theorem aI_or (k : IntKind) (x y : Int) : aInts .or k x y = some (.int k (ior k x y)) := id rfl
theorem aI_quo (k : IntKind) (x y : Int) (h : y ≠ 0) : aInts .quo k x y = some (.int k (k.wrap (x.tdiv y))) := by simp [aInts, h]
theorem aI_rem (k : IntKind) (x y : Int) (h : y ≠ 0) : aInts .rem k x y = some (.int k (x.tmod y)) := by simp [aInts, h]

theorem wrap_i64 {n : Int} (h1 : -9223372036854775808 ≤ n) (h2 : n ≤ 9223372036854775807) : IntKind.i64.wrap n = n := by
  simp [IntKind.wrap, IntKind.signed, IntKind.bits]
  split <;> omega

theorem wrap_u64 {n : Int} (h1 : 0 ≤ n) (h2 : n ≤ 18446744073709551615) : IntKind.u64.wrap n = n := by
  simp [IntKind.wrap, IntKind.signed, IntKind.bits]
  omega

/-! ### Heaps that grow -/

structure Ext (M M' : Heap) : Prop where
  sub : M.Sub M'
  next : M.next ≤ M'.next
  wf : M'.Wf

theorem Ext.refl {M : Heap} (h : M.Wf) : Ext M M := ⟨.refl _, Nat.le_refl _, h⟩
theorem Ext.trans {A B C : Heap} (h : Ext A B) (k : Ext B C) : Ext A C := ⟨h.sub.trans k.sub, Nat.le_trans h.next k.next, k.wf⟩
theorem Ext.push {M : Heap} (h : M.Wf) (x : Blk) : Ext M (M.push x) :=
  ⟨fun b y hy => by
    have : b ≠ M.next := fun e => by rw [e, h _ (Nat.le_refl _)] at hy; cases hy
    simp [Heap.push, this, hy], Nat.le_succ _, fun b hb => by
    simp only [Heap.push] at hb ⊢
    rw [if_neg (by omega)]
    exact h b (by omega)⟩
theorem push_new (M : Heap) (x : Blk) : (M.push x).get M.next = some x := by simp [Heap.push]
theorem push_next (M : Heap) (x : Blk) : (M.push x).next = M.next + 1 := rfl

/-- A slice of texts. -/
def SlStr (M : Heap) (a : AV) (l : List (List UInt8)) : Prop :=
  ∃ p sz cap ex, a = .slice p sz l.length cap ex ∧ (l ≠ [] → sz = 1 ∧ ∃ b o c ro sl, p = some (b, o) ∧ M.get b = some (.cells c ro sl) ∧ ∀ j s, l[j]? = some s → c[o + j]? = some (.str s))

theorem SlStr.mono {M M' : Heap} (h : M.Sub M') {a : AV} {l : List (List UInt8)} (r : SlStr M a l) : SlStr M' a l := by
  obtain ⟨p, sz, cap, ex, h1, h2⟩ := r
  refine ⟨p, sz, cap, ex, h1, fun hl => ?_⟩
  obtain ⟨e1, b, o, c, ro, sl, e2, e3, e4⟩ := h2 hl
  exact ⟨e1, b, o, c, ro, sl, e2, h _ _ e3, e4⟩

/-! ### A call that stands by itself -/

/-- A function without parameters, run upon nothing: what it tells, wherever it is called. -/
def alone (g : List AV → Heap → Option (AV × Heap)) : List AV → Heap → Option (AV × Heap) := fun args M =>
  match args, g [] Heap.empty with
  | [], some (.bool b, _) => some (.bool b, M)
  | _, _ => none

theorem alone_sound {P : Program} {f : FuncId} {g : List AV → Heap → Option (AV × Heap)} (hs : Sound P f g) : Sound P f (alone g) := by
  intro args M v M' h ι w vs r hv
  unfold alone at h
  split at h
  case h_2 => cases h
  rename_i b M0 hg
  simp only [Option.some.injEq, Prod.mk.injEq] at h
  obtain ⟨rfl, rfl⟩ := h
  have hvs : vs = #[] := by
    have := hv.length
    simp at this
    exact Array.eq_empty_of_size_eq_zero this.symm
  subst hvs
  refine (hs [] Heap.empty _ M0 hg (fun _ => none) w #[] (R.empty w) (by simp [VRL])).mono ?_
  rintro e w' ⟨ι', v', rfl, hv', ht⟩
  simp only [VR] at hv'
  subst hv'
  have bel := below_of_tr ht (fun b x h => by simp [Heap.empty] at h)
  have hr : R ι M w' := ⟨fun b x hx => by
    obtain ⟨l, o, h1, h2, h3⟩ := r.blk b x hx
    exact ⟨l, o, h1, by rw [bel.block _ (Array.getElem?_eq_some_iff.1 h2).1]; exact h2, h3⟩, r.apart, r.fresh⟩
  refine ⟨ι, _, rfl, by simp [VR], ⟨hr, fun _ _ => rfl, Nat.le_refl _, fun _ _ h => h, fun _ _ h _ => h, fun b x l h1 h2 h3 _ => ⟨b, x, l, h1, h2, h3, rfl⟩, fun j hj _ => bel.block j hj, bel.size, bel.os, bel.tape, bel.output⟩⟩

theorem callsOk_le {P : Program} {C C' : ACalls} (h : C.Le C') (k : CallsOk P C') : CallsOk P C := fun f =>
  ⟨fun args M r hr => (k f).1 args M r (h f args M r hr), fun args M v M' hr => (k f).2 args M v M' (h f args M _ hr)⟩

/-- A law's machine: the example, known, is run once, upon nothing. -/
def withKnown (kn : FuncId) (T : FuncId → Option AFunc) : Sums := fun f => if f = kn then some (alone (bcall (fun _ => none) T 100000 40 kn)) else none

theorem withKnown_sound {P : Program} {kn : FuncId} {T : FuncId → Option AFunc} (hT : ∀ f af, T f = some af → ∃ h, cFunc P f h = some af) (hrun : tellsTrue (bcall (fun _ => none) T 100000 40 kn [] Heap.empty) = true) (K d : Nat) :
    CallsOk P (bcall (withKnown kn T) T K d) := by
  have h0 : CallsOk P (bcall (fun _ => none) T 100000 40) := callsOk_le (bcall_ok 40) (acall_sound (fun _ _ h => by cases h) hT 100000 40)
  refine callsOk_le (bcall_ok d) (acall_sound (fun f g hg => ?_) hT K d)
  unfold withKnown at hg
  split at hg
  · rename_i hf
    subst hf
    obtain rfl := Option.some.inj hg
    obtain ⟨M', hM⟩ := tellsTrue_iff hrun
    exact ⟨(h0 f).1 _ _ _ hM, alone_sound (h0 f).2⟩
  · cases hg

theorem known_spec {kn : FuncId} {T : FuncId → Option AFunc} (hrun : tellsTrue (bcall (fun _ => none) T 100000 40 kn [] Heap.empty) = true) (K d : Nat) (M : Heap) : bcall (withKnown kn T) T K (d + 1) kn [] M = some (.bool true, M) := by
  obtain ⟨M', hM⟩ := tellsTrue_iff hrun
  have h1 : withKnown kn T kn = some (alone (bcall (fun _ => none) T 100000 40 kn)) := if_pos rfl
  have h2 : alone (bcall (fun _ => none) T 100000 40 kn) [] M = some (.bool true, M) := by
    unfold alone
    rw [hM]
  rw [bcall, h1]
  exact h2

theorem are_cons {s : Sh} {ss : List Sh} {ds : List D} (h : D.are (s :: ss) ds) : ∃ d r, ds = d :: r ∧ D.is s d ∧ D.are ss r := by
  cases ds with
  | nil => simp [D.are] at h
  | cons d r => exact ⟨d, r, rfl, by simpa [D.are] using h⟩
theorem are_nil {ds : List D} (h : D.are [] ds) : ds = [] := by
  cases ds with
  | nil => rfl
  | cons d r => simp [D.are] at h
theorem args_cons {M : Heap} {av : List AV} {d : D} {r : List D} (h : Args M av (d :: r)) : ∃ a t, av = a :: t ∧ RdArg M a d ∧ Args M t r := by
  cases av with
  | nil => simp [Args] at h
  | cons a t => exact ⟨a, t, rfl, by simpa [Args] using h⟩
theorem args_nil {M : Heap} {av : List AV} (h : Args M av []) : av = [] := by
  cases av with
  | nil => rfl
  | cons a t => simp [Args] at h
theorem arg_str {M : Heap} {a : AV} {s : List UInt8} (h : RdArg M a (.str s)) : a = .str s := by simpa [RdArg, Rd] using h
theorem arg_int {M : Heap} {a : AV} {k : IntKind} {n : Int} (h : RdArg M a (.int k n)) : a = .int k n := by simpa [RdArg, Rd] using h
theorem arg_bool {M : Heap} {a : AV} {b : Bool} (h : RdArg M a (.bool b)) : a = .bool b := by simpa [RdArg, Rd] using h

end Go.Proofs.Ytachollgbplikaa
