/- The machine, part 2. -/
import Derived.Test.YtlcjmchhnbdepaaJ1
import Derived.ProofKit
import Derived.OpenShut
import Derived.ChangeOld
import Derived.Below
import Derived.Carry
import Derived.SizedLaws
import Derived.Deep.CondSized
section
/- The abstract machine, thirteenth part: one more operation of a drawn region is done. -/
set_option linter.unusedVariables false
set_option linter.unusedSimpArgs false
namespace Go.Proofs.Ytlcjmchhnbdepaa

theorem put_VRL {ι : Inj} {e : Env} {a : Act} (h : VRL ι e a.tmps.toList) {d : Option Nat} {v : AV} {v' : Value} (hv : VR ι v v') : VRL ι (aput d v e) (a.put d v').tmps.toList := by
  cases d with
  | none => exact h
  | some d =>
    simp only [aput, Act.put, Array.toList_setIfInBounds]
    exact h.set d hv

theorem put_defers (a : Act) (d : Option Nat) (v : Value) : (a.put d v).defers = a.defers := by cases d <;> rfl

theorem heap_ext {M N : Heap} (h : ∀ b, M.get b = N.get b) (hn : M.next = N.next) : M = N := by
  cases M
  cases N
  simp only at h hn
  subst hn
  congr
  funext b
  exact h b

section
variable {P : Program} {C : ACalls} {base nk : Nat} {ds : List DOper} {E : Nat → Env} {H : Nat → Heap} {G : Nat → List Heap} {V : Nat → AV} {W : Nat → Bool} {B : Nat → Option Blk} {anc : Nat → Nat → Prop}

structure DInv (base nk : Nat) (ds : List DOper) (E : Nat → Env) (H : Nat → Heap) (V : Nat → AV) (B : Nat → Option Blk) (anc : Nat → Nat → Prop) (ι0 : Inj) (M0 : Heap) (w0 : World) (q : Nat) (S : Nat → Bool) (ι : Inj) (a : Act) (w : World) : Prop where
  qle : q ≤ ds.length
  qlast : q = 0 ∨ ∃ j, S j = true ∧ loudAt ds j = true ∧ j + 1 = q
  below : ∀ j, S j = true → loudAt ds j = true → j < q
  closed : ∀ p r, S r = true → anc p r → S p = true
  nones : ∀ b, base ≤ b → b < base + nk → (∀ p0, slotAt ds (b - base) = some p0 → q ≤ p0 → (H q).get b = none) ∧ (slotAt ds (b - base) = none → (H q).get b = none)
  nextq : base + nk ≤ (H q).next
  tr : Tr ι0 M0 w0 ι (heapOf base nk ds H B q S) w
  unm : ∀ p d, ds[p]? = some d → d.o.op.isK = true → S p = false → ι (base + d.ix) = none
  env : VRL ι (envOf ds (E 0) V S) a.tmps.toList
  defs : a.defers = []

def more (S : Nat → Bool) (p : Nat) : Nat → Bool := fun r => r == p || S r

theorem more_self (S : Nat → Bool) (p : Nat) : more S p p = true := by simp [more]
theorem more_ne {S : Nat → Bool} {p r : Nat} (h : r ≠ p) : more S p r = S r := by simp [more, h]

/-- An operation that is not loud: what is to be shown. -/
theorem DInv.quiet (c : DCond nk ds anc) {ι0 : Inj} {M0 : Heap} {w0 : World} {q : Nat} {S : Nat → Bool} {ι : Inj} {a : Act} {w : World} (I : DInv base nk ds E H V B anc ι0 M0 w0 q S ι a w) {p : Nat} {d : DOper} (hd : ds[p]? = some d) (hS : S p = false)
    (hpre : ∀ r, anc r p → S r = true) (hq : d.o.op.loud = false) {ι' : Inj} {w' : World} {v' : Value} (hle : ι.Le ι') (ht : Tr ι0 M0 w0 ι' (heapOf base nk ds H B q (more S p)) w') (hu : ∀ r d', ds[r]? = some d' → d'.o.op.isK = true → S r = false → r ≠ p → ι' (base + d'.ix) = none)
    (hv : VR ι' (V p) v') : DInv base nk ds E H V B anc ι0 M0 w0 q (more S p) ι' (a.put d.o.dst v') w' where
  qle := I.qle
  qlast := I.qlast.imp id fun ⟨j, h1, h2, h3⟩ => ⟨j, by simp [more, h1], h2, h3⟩
  below j h1 h2 := by
    by_cases hj : j = p
    · subst hj
      simp [loudAt, hd, hq] at h2
    · rw [more_ne hj] at h1
      exact I.below j h1 h2
  closed r s h1 h2 := by
    by_cases hs : s = p
    · subst hs
      simp [more, hpre r h2]
    · rw [more_ne hs] at h1
      simp [more, I.closed r s h1 h2]
  nones := I.nones
  nextq := I.nextq
  tr := ht
  unm r d' h1 h2 h3 := by
    by_cases hr : r = p
    · subst hr
      simp [more] at h3
    · rw [more_ne hr] at h3
      exact hu r d' h1 h2 h3 hr
  env := by
    have := env_put (V := V) (e0 := E 0) (S := S) c hd
    show VRL ι' (envOf ds (E 0) V (more S p)) _
    unfold more
    rw [this]
    exact put_VRL (VRL.mono hle _ _ I.env) hv
  defs := by rw [put_defers]; exact I.defs

/-- Not a slot: the heap is the same one. -/
theorem heapOf_same {q : Nat} {S : Nat → Bool} {p : Nat} {d : DOper} (hd : ds[p]? = some d) (hk : d.o.op.isK = false) : heapOf base nk ds H B q (more S p) = heapOf base nk ds H B q S := by
  refine heap_ext (fun b => ?_) rfl
  simp only [heapOf]
  split
  · cases hs : slotAt ds (b - base) with
    | none => rfl
    | some p0 =>
      simp only
      have : p0 ≠ p := by
        rintro rfl
        obtain ⟨d', h1, h2, _⟩ := slotAt_some hs
        rw [hd] at h1
        obtain rfl := Option.some.inj h1
        rw [hk] at h2
        cases h2
      rw [more_ne this]
  · rfl

/-- All loud operations ahead of the next one are done. -/
theorem DInv.frontier (c : DCond nk ds anc) {ι0 : Inj} {M0 : Heap} {w0 : World} {q : Nat} {S : Nat → Bool} {ι : Inj} {a : Act} {w : World} (I : DInv base nk ds E H V B anc ι0 M0 w0 q S ι a w) {p : Nat} {d : DOper} (hd : ds[p]? = some d) (hS : S p = false) (hp : d.o.op.plain = false) : q ≤ p := by
  rcases I.qlast with h | ⟨j, h1, h2, h3⟩
  · omega
  · rcases Nat.lt_or_ge p j with hlt | hge
    · have hj := h2
      unfold loudAt at hj
      split at hj
      · rename_i d' hd'
        have := I.closed p j h1 (c.loud p j d d' hd hd' hlt hj hp)
        rw [hS] at this
        cases this
      · cases hj
    · rcases Nat.eq_or_lt_of_le hge with e | hlt
      · subst e
        rw [hS] at h1
        cases h1
      · omega

/-- The pending blocks, at a loud operation. -/
def pending (base nk : Nat) (ds : List DOper) (B : Nat → Option Blk) (S : Nat → Bool) (p : Nat) (b : Nat) : Option Blk :=
  if base ≤ b ∧ b < base + nk then (match slotAt ds (b - base) with | some p0 => if p < p0 ∧ S p0 = true then B p0 else none | none => none) else none

theorem DInv.at_loud (c : DCond nk ds anc) (r : DRun C base nk ds E H G V W B) {ι0 : Inj} {M0 : Heap} {w0 : World} {q : Nat} {S : Nat → Bool} {ι : Inj} {a : Act} {w : World} (I : DInv base nk ds E H V B anc ι0 M0 w0 q S ι a w) {p : Nat} {d : DOper} (hd : ds[p]? = some d) (hS : S p = false)
    (hpre : ∀ r, anc r p → S r = true) (hl : d.o.op.loud = true) :
    q ≤ p ∧ heapOf base nk ds H B q S = (H p).over (pending base nk ds B S p) ∧ (∀ b, base ≤ b → b < base + nk → (∀ p0, slotAt ds (b - base) = some p0 → p ≤ p0 → (H p).get b = none) ∧ (slotAt ds (b - base) = none → (H p).get b = none)) ∧ base + nk ≤ (H p).next := by
  have hplain : d.o.op.plain = false := by
    cases ho : d.o.op with
    | p o => rw [ho] at hl; cases hl
    | _ => rfl
  have hqp := I.frontier c hd hS hplain
  have hplt := (List.getElem?_eq_some_iff.1 hd).1
  have hno : ∀ j, q ≤ j → j < p → loudAt ds j = false := by
    intro j h1 h2
    cases hj : loudAt ds j with
    | false => rfl
    | true =>
      have hj' := hj
      unfold loudAt at hj'
      split at hj'
      · rename_i d' hd'
        have hnp : d'.o.op.plain = false := by
          cases ho : d'.o.op with
          | p o => rw [ho] at hj'; cases hj'
          | _ => rfl
        have := I.below j (hpre j (c.loud j p d' d hd' hd h2 hl hnp)) hj
        omega
      · cases hj'
  obtain ⟨g1, g2, g3⟩ := heap_quiet c r p hqp (by omega) hno
  have g3' := g3 (fun b p0 b1 b2 hs hq => (I.nones b b1 b2).1 p0 hs hq)
  have hK : ∀ p0 s, slotAt ds s = some p0 → p0 ≠ p := by
    rintro p0 s hs rfl
    obtain ⟨d', h1, h2, _⟩ := slotAt_some hs
    rw [hd] at h1
    obtain rfl := Option.some.inj h1
    cases ho : d.o.op with
    | n o => rw [ho] at h2; cases h2
    | p o => rw [ho] at hl; cases hl
    | l o => rw [ho] at hl; cases hl
    | k o => rw [ho] at hl; cases hl
  refine ⟨hqp, heap_ext (fun b => ?_) g1.symm, fun b b1 b2 => ⟨fun p0 hs hp0 => ?_, fun hs => ?_⟩, by rw [g1]; exact I.nextq⟩
  · by_cases hb : base ≤ b ∧ b < base + nk
    · have hg := g3' b hb.1 hb.2
      cases hs : slotAt ds (b - base) with
      | none =>
        rw [hs] at hg
        have hX : pending base nk ds B S p b = none := by simp [pending, hb, hs]
        rw [over_none hX, hg]
        simp [heapOf, hb, hs, (I.nones b hb.1 hb.2).2 hs]
      | some p0 =>
        rw [hs] at hg
        simp only at hg
        have hne := hK p0 _ hs
        rcases Nat.lt_or_ge p0 q with h1 | h1
        · have hX : pending base nk ds B S p b = none := by
            simp only [pending, if_pos hb, hs]
            rw [if_neg (by omega)]
          rw [over_none hX, hg, if_neg (by omega)]
          simp [heapOf, hb, hs, h1]
        · rcases Nat.lt_or_ge p0 p with h2 | h2
          · have hX : pending base nk ds B S p b = none := by
              simp only [pending, if_pos hb, hs]
              rw [if_neg (by omega)]
            rw [over_none hX, hg, if_pos ⟨h1, h2⟩]
            obtain ⟨d', k1, k2, _⟩ := slotAt_some hs
            have hS0 : S p0 = true := hpre p0 (c.loud p0 p d' d k1 hd h2 hl (by cases ho : d'.o.op with | p o => rw [ho] at k2; cases k2 | _ => rfl))
            simp [heapOf, hb, hs, show ¬ p0 < q from by omega, hS0]
          · have hnn := (I.nones b hb.1 hb.2).1 p0 hs h1
            have hlhs : (heapOf base nk ds H B q S).get b = if S p0 then B p0 else none := by
              simp [heapOf, hb, hs, show ¬ p0 < q from by omega]
            rw [hlhs]
            have hgn : (H p).get b = none := by rw [hg, if_neg (by omega)]; exact hnn
            cases hS0 : S p0 with
            | false =>
              have hX : pending base nk ds B S p b = none := by simp [pending, hb, hs, hS0]
              rw [over_none hX, hgn]
              simp
            | true =>
              simp only [if_true]
              cases hB : B p0 with
              | none =>
                have hX : pending base nk ds B S p b = none := by simp [pending, hb, hs, hS0, hB]
                rw [over_none hX, hgn]
              | some x =>
                have hX : pending base nk ds B S p b = some x := by
                  simp only [pending, if_pos hb, hs]
                  rw [if_pos ⟨by omega, hS0⟩, hB]
                rw [over_some hX]
    · have hX : pending base nk ds B S p b = none := by simp only [pending]; rw [if_neg hb]
      rw [over_none hX, g2 b hb]
      simp only [heapOf]
      rw [if_neg hb]
  · have hg := g3' b b1 b2
    rw [hs] at hg
    simp only at hg
    rw [hg]
    have := hK p0 _ hs
    split
    · omega
    · exact (I.nones b b1 b2).1 p0 hs (by omega)
  · have hg := g3' b b1 b2
    rw [hs] at hg
    rw [hg]
    exact (I.nones b b1 b2).2 hs

/-- Behind a loud operation. -/
theorem DInv.behind (c : DCond nk ds anc) {ι0 : Inj} {M0 : Heap} {w0 : World} {q : Nat} {S : Nat → Bool} {ι : Inj} {a : Act} {w : World} (I : DInv base nk ds E H V B anc ι0 M0 w0 q S ι a w) {p : Nat} {d : DOper} (hd : ds[p]? = some d) (hS : S p = false)
    (hpre : ∀ r, anc r p → S r = true) (hl : d.o.op.loud = true) (hqp : q ≤ p)
    (hn : ∀ b, base ≤ b → b < base + nk → (∀ p0, slotAt ds (b - base) = some p0 → p ≤ p0 → (H (p + 1)).get b = none) ∧ (slotAt ds (b - base) = none → (H (p + 1)).get b = none)) (hnx : base + nk ≤ (H (p + 1)).next)
    {ι' : Inj} {w' : World} {v' : Value} (hle : ι.Le ι') (ht : Tr ι0 M0 w0 ι' ((H (p + 1)).over (pending base nk ds B S p)) w') (hu : ∀ r d', ds[r]? = some d' → d'.o.op.isK = true → S r = false → ι' (base + d'.ix) = none)
    (hv : VR ι' (V p) v') : DInv base nk ds E H V B anc ι0 M0 w0 (p + 1) (more S p) ι' (a.put d.o.dst v') w' := by
  have hplt := (List.getElem?_eq_some_iff.1 hd).1
  have hK : ∀ p0 s, slotAt ds s = some p0 → p0 ≠ p := by
    rintro p0 s hs rfl
    obtain ⟨d', h1, h2, _⟩ := slotAt_some hs
    rw [hd] at h1
    obtain rfl := Option.some.inj h1
    cases ho : d.o.op with
    | n o => rw [ho] at h2; cases h2
    | p o => rw [ho] at hl; cases hl
    | l o => rw [ho] at hl; cases hl
    | k o => rw [ho] at hl; cases hl
  have hheap : heapOf base nk ds H B (p + 1) (more S p) = (H (p + 1)).over (pending base nk ds B S p) := by
    refine heap_ext (fun b => ?_) rfl
    by_cases hb : base ≤ b ∧ b < base + nk
    · cases hs : slotAt ds (b - base) with
      | none =>
        have hX : pending base nk ds B S p b = none := by simp [pending, hb, hs]
        rw [over_none hX, (hn b hb.1 hb.2).2 hs]
        simp [heapOf, hb, hs]
      | some p0 =>
        have hne := hK p0 _ hs
        rcases Nat.lt_or_ge p0 (p + 1) with h1 | h1
        · have hX : pending base nk ds B S p b = none := by
            simp only [pending, if_pos hb, hs]
            rw [if_neg (by omega)]
          rw [over_none hX]
          simp [heapOf, hb, hs, h1]
        · have hgn := (hn b hb.1 hb.2).1 p0 hs (by omega)
          have hlhs : (heapOf base nk ds H B (p + 1) (more S p)).get b = if S p0 then B p0 else none := by
            simp [heapOf, hb, hs, show ¬ p0 < p + 1 from by omega, more_ne hne]
          rw [hlhs]
          cases hS0 : S p0 with
          | false =>
            have hX : pending base nk ds B S p b = none := by simp [pending, hb, hs, hS0]
            rw [over_none hX, hgn]
            simp
          | true =>
            simp only [if_true]
            cases hB : B p0 with
            | none =>
              have hX : pending base nk ds B S p b = none := by simp [pending, hb, hs, hS0, hB]
              rw [over_none hX, hgn]
            | some x =>
              have hX : pending base nk ds B S p b = some x := by
                simp only [pending, if_pos hb, hs]
                rw [if_pos ⟨by omega, hS0⟩, hB]
              rw [over_some hX]
    · have hX : pending base nk ds B S p b = none := by simp only [pending]; rw [if_neg hb]
      rw [over_none hX]
      simp only [heapOf]
      rw [if_neg hb]
  constructor
  · omega
  · exact .inr ⟨p, more_self S p, by simp [loudAt, hd, hl], rfl⟩
  · intro j h1 h2
    by_cases hj : j = p
    · omega
    · rw [more_ne hj] at h1
      have := I.below j h1 h2
      omega
  · intro r s h1 h2
    by_cases hs : s = p
    · subst hs
      simp [more, hpre r h2]
    · rw [more_ne hs] at h1
      simp [more, I.closed r s h1 h2]
  · intro b b1 b2
    exact ⟨fun p0 hs hp0 => (hn b b1 b2).1 p0 hs (by omega), (hn b b1 b2).2⟩
  · exact hnx
  · rw [hheap]
    exact ht
  · intro r d' h1 h2 h3
    by_cases hr : r = p
    · subst hr
      simp [more] at h3
    · rw [more_ne hr] at h3
      exact hu r d' h1 h2 h3
  · have := env_put (V := V) (e0 := E 0) (S := S) c hd
    show VRL ι' (envOf ds (E 0) V (more S p)) _
    unfold more
    rw [this]
    exact put_VRL (VRL.mono hle _ _ I.env) hv
  · rw [put_defers]
    exact I.defs

end

end Go.Proofs.Ytlcjmchhnbdepaa
end

section
/- The abstract machine, fourteenth part: each operation of a drawn region, and all of them. -/
set_option linter.unusedVariables false
set_option linter.unusedSimpArgs false
namespace Go.Proofs.Ytlcjmchhnbdepaa

theorem aK_own {o : KOp} {e : Env} {x : Blk} {mk : Mk} (h : aK o e = some (x, mk)) : x.own = true := by
  cases o with
  | alloc z => simp only [aK, Option.some.injEq, Prod.mk.injEq] at h; obtain ⟨rfl, _⟩ := h; rfl
  | makeMap => simp only [aK, Option.some.injEq, Prod.mk.injEq] at h; obtain ⟨rfl, _⟩ := h; rfl
  | box y =>
    simp only [aK] at h
    obtain ⟨cs, _, h⟩ := Option.map_eq_some_iff.1 h
    simp only [Prod.mk.injEq] at h
    obtain ⟨rfl, _⟩ := h
    rfl
  | buildSlice a b c d =>
    simp only [aK] at h
    obtain ⟨cs, _, h⟩ := Option.map_eq_some_iff.1 h
    simp only [Prod.mk.injEq] at h
    obtain ⟨rfl, _⟩ := h
    rfl
  | makeSlice a b c d f =>
    simp only [aK, aMakeSlice] at h
    split at h
    case h_2 => cases h
    split at h
    case isFalse => cases h
    simp only [Option.some.injEq, Prod.mk.injEq] at h
    obtain ⟨rfl, _⟩ := h
    rfl
  | strBytes y =>
    simp only [aK] at h
    split at h
    case h_2 => cases h
    split at h
    case isFalse => cases h
    simp only [Option.some.injEq, Prod.mk.injEq] at h
    obtain ⟨rfl, _⟩ := h
    rfl

section
variable {P : Program} {C : ACalls} {base nk : Nat} {ds : List DOper} {E : Nat → Env} {H : Nat → Heap} {G : Nat → List Heap} {V : Nat → AV} {W : Nat → Bool} {B : Nat → Option Blk} {anc : Nat → Nat → Prop}

theorem B_own (r : DRun C base nk ds E H G V W B) {p : Nat} {x : Blk} (hp : p < ds.length) (h : B p = some x) : x.own = true := by
  have hd : ds[p]? = some ds[p] := by simp [hp]
  have st := r.step p _ hd
  cases hw : W p with
  | false => rw [(st.no hw).2.2] at h; cases h
  | true =>
    cases ho : ds[p].o.op with
    | p o => rw [(st.p o hw ho).2.2] at h; cases h
    | l o => rw [(st.l o hw ho).2.2.1] at h; cases h
    | n o => rw [(st.n o hw ho).2] at h; cases h
    | k o =>
      obtain ⟨y, mk, k1, _, _, k4⟩ := st.k o hw ho
      rw [k4] at h
      obtain rfl := Option.some.inj h
      exact aK_own k1

theorem DInv.read (c : DCond nk ds anc) (r : DRun C base nk ds E H G V W B) (hg0 : G 0 = []) {ι0 : Inj} {M0 : Heap} {w0 : World} {q : Nat} {S : Nat → Bool} {ι : Inj} {a : Act} {w : World} (I : DInv base nk ds E H V B anc ι0 M0 w0 q S ι a w) {p : Nat} {d : DOper} (hd : ds[p]? = some d) (hS : S p = false)
    (hpre : ∀ r, anc r p → S r = true) {o : LOp} (ho : d.o.op = .l o) (hw : W p = true) : aL o (envOf ds (E 0) V S) (heapOf base nk ds H B q S) = some (V p) := by
  have st := r.step p d hd
  obtain ⟨h1, _, _, h4⟩ := st.l o hw ho
  have hplt := (List.getElem?_eq_some_iff.1 hd).1
  have hqp := I.frontier c hd hS (by rw [ho]; rfl)
  have hag : Agree o.rd (E p) (envOf ds (E 0) V S) := by
    have := env_agree c r I.closed hd hS hpre
    intro t ht
    exact this t (by simp [AOper.rd, ho, AOp.rd, ht])
  have hsub : ∀ j, q ≤ j → j ≤ ds.length → (∀ i, q ≤ i → i < j → loudAt ds i = false) → ((H j).hide base nk).Sub (heapOf base nk ds H B q S) := by
    intro j j1 j2 j3 b x hx
    obtain ⟨_, g2, _⟩ := heap_quiet c r j j1 j2 j3
    simp only [Heap.hide] at hx
    split at hx
    · cases hx
    · rename_i hb
      rw [g2 b hb] at hx
      simp only [heapOf]
      rw [if_neg hb]
      exact hx
  by_cases hex : ∃ j, q ≤ j ∧ j < p ∧ loudAt ds j = true
  · obtain ⟨j, j1, j2, j3, j4⟩ : ∃ j, q ≤ j ∧ j < p ∧ loudAt ds j = true ∧ ∀ i, q ≤ i → i < j → loudAt ds i = false := by
      obtain ⟨j, hj⟩ := hex
      induction j using Nat.strongRecOn with
      | _ j ih =>
        by_cases hsm : ∃ i, i < j ∧ q ≤ i ∧ i < p ∧ loudAt ds i = true
        · obtain ⟨i, i1, i2⟩ := hsm
          exact ih i i1 i2
        · refine ⟨j, hj.1, hj.2.1, hj.2.2, fun i i1 i2 => ?_⟩
          cases hi : loudAt ds i with
          | false => rfl
          | true => exact absurd ⟨i, i2, i1, by omega, hi⟩ hsm
    have hlo : d.lo ≤ cntLoud ds j := by
      rcases Nat.lt_or_ge (cntLoud ds j) d.lo with h | h
      · have := I.below j (hpre j (c.lo p d j hd (by rw [ho]; rfl) j2 j3 h)) j3
        omega
      · exact h
    have := h4 (cntLoud ds j) (H j) hlo (hist_get r hg0 (by omega) j2 j3)
    rw [← aL_agree hag]
    exact aL_sub (hsub j j1 (by omega) j4) this
  · rw [← aL_agree hag]
    refine aL_sub (hsub p hqp (by omega) fun i i1 i2 => ?_) h1
    cases hi : loudAt ds i with
    | false => rfl
    | true => exact absurd ⟨i, i1, i2, hi⟩ hex

theorem DInv.step (c : DCond nk ds anc) (r : DRun C base nk ds E H G V W B) (hg0 : G 0 = []) {ι0 : Inj} {M0 : Heap} {w0 : World} (hbase : M0.next = base) {q : Nat} {S : Nat → Bool} {ι : Inj} {a : Act} {w : World} (I : DInv base nk ds E H V B anc ι0 M0 w0 q S ι a w)
    {p : Nat} {d : DOper} (hd : ds[p]? = some d) (hS : S p = false) (hpre : ∀ r, anc r p → S r = true) {o : Oper} (hok : OpOk P C o d.o.op) (hdst : o.dst = d.o.dst) :
    (W p = true → ∀ (next : Act → World → Prop) (Q : Exit → Act → World → Prop), (∀ q' ι' v' w', DInv base nk ds E H V B anc ι0 M0 w0 q' (more S p) ι' (a.put o.dst v') w' → next (a.put o.dst v') w') → o.wp P a w next Q) ∧
    (W p = false → ∃ q', DInv base nk ds E H V B anc ι0 M0 w0 q' (more S p) ι (a.put o.dst undef) w) := by
  have st := r.step p d hd
  have hplt := (List.getElem?_eq_some_iff.1 hd).1
  have rr := I.tr.rel
  have hagree := env_agree c r I.closed hd hS hpre
  have hag : Agree d.o.op.rd (E p) (envOf ds (E 0) V S) := fun t ht => hagree t (by simp [AOper.rd, ht])
  rw [hdst]
  cases ho : d.o.op with
  | p po =>
    rw [ho] at hok hag
    have hs := heapOf_same (base := base) (nk := nk) (H := H) (B := B) (q := q) (S := S) hd (by rw [ho]; rfl)
    have fin : ∀ v', VR ι (V p) v' → DInv base nk ds E H V B anc ι0 M0 w0 q (more S p) ι (a.put d.o.dst v') w := fun v' hv =>
      I.quiet c hd hS hpre (by rw [ho]; rfl) (Inj.Le.refl ι) (by rw [hs]; exact I.tr) (fun r d' h1 h2 h3 _ => I.unm r d' h1 h2 h3) hv
    refine ⟨fun hw next Q hn => ?_, fun hw => ⟨q, fin undef ?_⟩⟩
    · have hv := (st.p po hw ho).1
      rw [aP_agree hag] at hv
      obtain ⟨v', hrun, hvr⟩ := hok ι _ a w _ I.env hv
      rw [← hdst] at hn
      exact NOk.of_run hrun (hn q ι v' w (by rw [hdst]; exact fin v' hvr))
    · rw [(st.no hw).1]
      exact VR.unit ι
  | l lo =>
    rw [ho] at hok hag
    have hs := heapOf_same (base := base) (nk := nk) (H := H) (B := B) (q := q) (S := S) hd (by rw [ho]; rfl)
    have fin : ∀ v', VR ι (V p) v' → DInv base nk ds E H V B anc ι0 M0 w0 q (more S p) ι (a.put d.o.dst v') w := fun v' hv =>
      I.quiet c hd hS hpre (by rw [ho]; rfl) (Inj.Le.refl ι) (by rw [hs]; exact I.tr) (fun r d' h1 h2 h3 _ => I.unm r d' h1 h2 h3) hv
    refine ⟨fun hw next Q hn => ?_, fun hw => ⟨q, fin undef ?_⟩⟩
    · have hv := I.read c r hg0 hd hS hpre ho hw
      obtain ⟨v', hrun, hvr⟩ := hok ι _ _ a w _ rr I.env hv
      rw [← hdst] at hn
      exact NOk.of_run hrun (hn q ι v' w (by rw [hdst]; exact fin v' hvr))
    · rw [(st.no hw).1]
      exact VR.unit ι
  | k ko =>
    rw [ho] at hok hag
    have hk : d.o.op.isK = true := by rw [ho]; rfl
    have hqp := I.frontier c hd hS (by rw [ho]; rfl)
    have hslot := slotAt_of c hd hk
    have hix := c.ixlt p d hd hk
    have hget : (heapOf base nk ds H B q S).get (base + d.ix) = none := by
      simp only [heapOf]
      rw [if_pos ⟨by omega, by omega⟩, show base + d.ix - base = d.ix from by omega, hslot]
      simp only
      rw [if_neg (by omega), hS]
      simp
    have hother : ∀ b, b ≠ base + d.ix → (heapOf base nk ds H B q (more S p)).get b = (heapOf base nk ds H B q S).get b := by
      intro b hb
      simp only [heapOf]
      split
      · rename_i hr
        cases hs : slotAt ds (b - base) with
        | none => rfl
        | some p0 =>
          simp only
          have : p0 ≠ p := by
            rintro rfl
            obtain ⟨d', h1, _, h3⟩ := slotAt_some hs
            rw [hd] at h1
            obtain rfl := Option.some.inj h1
            omega
          rw [more_ne this]
      · rfl
    have hself : (heapOf base nk ds H B q (more S p)).get (base + d.ix) = B p := by
      simp only [heapOf]
      rw [if_pos ⟨by omega, by omega⟩, show base + d.ix - base = d.ix from by omega, hslot]
      simp only
      rw [if_neg (by omega), more_self]
      simp
    refine ⟨fun hw next Q hn => ?_, fun hw => ?_⟩
    · obtain ⟨x, mk, k1, k2, k3, k4⟩ := st.k ko hw ho
      rw [aK_agree hag] at k1
      obtain ⟨v', w', ob, N, hrun, hown, hmade, hrel⟩ := hok ι _ a w x mk I.env k1
      have hnone := I.unm p d hd hk hS
      have hle := Inj.set_le hnone ⟨w.heap.size, 0, N⟩
      have hset : (ι.set (base + d.ix) ⟨w.heap.size, 0, N⟩) (base + d.ix) = some ⟨w.heap.size, 0, N⟩ := by simp [Inj.set]
      obtain ⟨hb, hvr⟩ := hrel _ _ hle hset
      have htr := Tr.slot I.tr (id := base + d.ix) (by omega) (by have := I.nextq; simp only [heapOf]; omega) hget hnone hown hmade hb
      have hheap : (heapOf base nk ds H B q S).put (base + d.ix) (some x) = heapOf base nk ds H B q (more S p) := by
        refine heap_ext (fun b => ?_) rfl
        rw [put_get]
        split
        · rename_i hb
          rw [hb, hself, k4]
        · rename_i hb
          rw [hother b hb]
      rw [hheap] at htr
      rw [← hdst] at hn
      refine NOk.of_run hrun (hn q (ι.set (base + d.ix) ⟨w.heap.size, 0, N⟩) v' w' ?_)
      rw [hdst]
      refine I.quiet c hd hS hpre (by rw [ho]; rfl) hle htr (fun s d' h1 h2 h3 h4 => ?_) (by rw [k2]; exact hvr)
      have : base + d'.ix ≠ base + d.ix := fun e => h4 (c.ix s p d' d h1 hd h2 hk (by omega))
      simp only [Inj.set, if_neg this]
      exact I.unm s d' h1 h2 h3
    · refine ⟨q, I.quiet c hd hS hpre (by rw [ho]; rfl) (Inj.Le.refl ι) ?_ (fun s d' h1 h2 h3 _ => I.unm s d' h1 h2 h3) (by rw [(st.no hw).1]; exact VR.unit ι)⟩
      have hheap : heapOf base nk ds H B q (more S p) = heapOf base nk ds H B q S := by
        refine heap_ext (fun b => ?_) rfl
        by_cases hb : b = base + d.ix
        · rw [hb, hself, hget, (st.no hw).2.2]
        · exact hother b hb
      rw [hheap]
      exact I.tr
  | n no =>
    rw [ho] at hok hag
    have hl : d.o.op.loud = true := by rw [ho]; rfl
    obtain ⟨hqp, hheap, hn0, hnx⟩ := I.at_loud c r hd hS hpre hl
    have hX : ∀ i x, pending base nk ds B S p i = some x → (H p).get i = none ∧ i < (H p).next ∧ x.own = true := by
      intro i x hx
      unfold pending at hx
      split at hx
      case isFalse => cases hx
      rename_i hb
      split at hx
      case h_2 => cases hx
      rename_i p0 hs
      split at hx
      case isFalse => cases hx
      rename_i hc
      obtain ⟨d', h1, _, _⟩ := slotAt_some hs
      exact ⟨(hn0 i hb.1 hb.2).1 p0 hs (by omega), by omega, B_own r (List.getElem?_eq_some_iff.1 h1).1 hx⟩
    rw [hheap] at rr
    have htr0 := I.tr
    rw [hheap] at htr0
    refine ⟨fun hw next Q hnext => ?_, fun hw => ?_⟩
    · have hrunA := (st.n no hw ho).1
      rw [aN_agree hag] at hrunA
      have rH : R ι (H p) w := rr.sub (fun b x hx => by
        have : pending base nk ds B S p b = none := by
          cases hb : pending base nk ds B S p b with
          | none => rfl
          | some y => rw [(hX b y hb).1] at hx; cases hx
        rw [over_none this]
        exact hx) rfl
      refine hok ι (H p) _ a w (V p) (H (p + 1)) next Q rH I.env hrunA fun ι' v' w' ht hv => ?_
      have hf := Tr.frame rr hX ht
      rw [hdst]
      refine hnext (p + 1) ι' v' w' ?_
      refine I.behind c hd hS hpre hl hqp (fun b b1 b2 => ⟨fun p0 hs hp0 => ?_, fun hs => ?_⟩) (by have := ht.next; omega) (ht.le rH) (htr0.trans hf) (fun s d' h1 h2 h3 => ?_) hv
      · exact ht.dead b (by omega) ((hn0 b b1 b2).1 p0 hs hp0)
      · exact ht.dead b (by omega) ((hn0 b b1 b2).2 hs)
      · have hix := c.ixlt s d' h1 h2
        rw [ht.agree _ (by omega)]
        exact I.unm s d' h1 h2 h3
    · obtain ⟨n1, n2, n3⟩ := st.no hw
      refine ⟨p + 1, I.behind c hd hS hpre hl hqp (fun b b1 b2 => ?_) (by rw [n2]; exact hnx) (Inj.Le.refl ι) (by rw [n2]; exact htr0) (fun s d' h1 h2 h3 => I.unm s d' h1 h2 h3) (by rw [n1]; exact VR.unit ι)⟩
      rw [n2]
      exact hn0 b b1 b2

end

end Go.Proofs.Ytlcjmchhnbdepaa
end

section
/- The abstract machine, fifteenth part: the orders that the model may draw, and the drawn region as a whole. -/
set_option linter.unusedVariables false
set_option linter.unusedSimpArgs false
namespace Go.Proofs.Ytlcjmchhnbdepaa

/-! ### Orders -/

theorem nodup_len : ∀ (l acc : List Nat), l.Nodup → (∀ x, x ∈ l → x ∈ acc) → l.length ≤ acc.length
  | [], acc, _, _ => by simp
  | x :: l, acc, h, hs => by
    rw [List.nodup_cons] at h
    have hx := hs x (by simp)
    have ih := nodup_len l (acc.erase x) h.2 fun y hy => by
      have hne : y ≠ x := fun e => by subst e; exact h.1 hy
      exact (List.mem_erase_of_ne hne).2 (hs y (by simp [hy]))
    rw [List.length_erase_of_mem hx] at ih
    have : 0 < acc.length := List.length_pos_of_mem hx
    simp
    omega

theorem least {n : Nat} {f : Nat → Prop} (rank : Nat → Nat) (h : ∃ i, i < n ∧ f i) : ∃ i, i < n ∧ f i ∧ ∀ j, j < n → f j → rank i ≤ rank j := by
  obtain ⟨i, hi, hf⟩ := h
  generalize hr : rank i = r
  induction r using Nat.strongRecOn generalizing i with
  | _ r ih =>
    by_cases hs : ∃ j, j < n ∧ f j ∧ rank j < r
    · obtain ⟨j, h1, h2, h3⟩ := hs
      exact ih (rank j) h3 j h1 h2 rfl
    · refine ⟨i, hi, hf, fun j h1 h2 => ?_⟩
      rcases Nat.lt_or_ge (rank j) (rank i) with h | h
      · exact absurd ⟨j, h1, h2, by omega⟩ hs
      · exact h

/-- An order: each operation once, each behind what it hangs on. -/
structure Lin (m : Region.Mode) (ops : Array Oper) (l : List Nat) : Prop where
  nodup : l.Nodup
  lt : ∀ i, i ∈ l → i < ops.size
  all : ∀ i, i < ops.size → i ∈ l
  after : ∀ l1 i l2, l = l1 ++ i :: l2 → ∀ o e, ops[i]? = some o → e ∈ o.after → Region.binds m e = true → e.on ∈ l1

theorem nodup_reverse {l : List Nat} (h : l.Nodup) : l.reverse.Nodup := by
  unfold List.Nodup at h ⊢
  rw [List.pairwise_reverse]
  exact h.imp fun h => Ne.symm h

theorem go_lin {m : Region.Mode} {ops : Array Oper} (rank : Nat → Nat) (hb : ∀ i o e, ops[i]? = some o → e ∈ o.after → Region.binds m e = true → rank e.on < rank i ∧ e.on < ops.size) :
    ∀ (fuel t : Nat) (listed : Array Bool) (acc : List Nat), listed.size = ops.size → (∀ i, i < ops.size → (listed.getD i true = true ↔ i ∈ acc)) → acc.Nodup → (∀ i, i ∈ acc → i < ops.size) →
      (∀ l1 i l2, acc.reverse = l1 ++ i :: l2 → ∀ o e, ops[i]? = some o → e ∈ o.after → Region.binds m e = true → e.on ∈ l1) → fuel + acc.length = ops.size → Lin m ops (Region.linearise.go m ops fuel t listed acc) := by
  intro fuel
  induction fuel with
  | zero =>
    intro t listed acc h1 h2 h3 h4 h5 h6
    simp only [Region.linearise.go]
    refine ⟨nodup_reverse h3, fun i hi => h4 i (by simpa using hi), fun i hi => ?_, h5⟩
    simp only [List.mem_reverse]
    by_cases hm : i ∈ acc
    · exact hm
    · have := nodup_len (i :: acc) (List.range ops.size) (List.nodup_cons.2 ⟨hm, h3⟩) (fun x hx => by
        rcases List.mem_cons.1 hx with rfl | hx
        · simpa using hi
        · simpa using h4 x hx)
      simp at this
      omega
  | succ fuel ih =>
    intro t listed acc h1 h2 h3 h4 h5 h6
    simp only [Region.linearise.go]
    have hF : ∀ i, i < ops.size → (listed.getD i false = true ↔ i ∈ acc) := fun i hi => by
      rw [← h2 i hi]
      simp [Array.getD_eq_getD_getElem?, h1, hi]
    generalize hrs : (List.range ops.size).filter (fun i => !listed.getD i true && ((ops[i]?).map (·.after.all fun e => !Region.binds m e || listed.getD e.on false)).getD false) = rs
    have hne : rs ≠ [] := by
      have hex : ∃ i, i < ops.size ∧ i ∉ acc := by
        refine Classical.byContradiction fun hc => ?_
        have := nodup_len (List.range ops.size) acc List.nodup_range (fun x hx => by
          by_cases hm : x ∈ acc
          · exact hm
          · exact absurd ⟨x, by simpa using hx, hm⟩ hc)
        simp at this
        omega
      obtain ⟨i, i1, i2, i3⟩ := least rank hex
      have hi : i ∈ rs := by
        rw [← hrs, List.mem_filter]
        refine ⟨by simpa using i1, ?_⟩
        have ho : ops[i]? = some ops[i] := by simp [i1]
        rw [ho]
        simp only [Bool.and_eq_true, Bool.not_eq_true', Option.map_some, Option.getD_some, Array.all_eq_true_iff_forall_mem]
        refine ⟨?_, fun e he => ?_⟩
        · cases hl : listed.getD i true with
          | false => rfl
          | true => exact absurd ((h2 i i1).1 hl) i2
        · cases hbd : Region.binds m e with
          | false => simp
          | true =>
            obtain ⟨r1, r2⟩ := hb i _ e ho he hbd
            have hm : e.on ∈ acc := by
              by_cases hm : e.on ∈ acc
              · exact hm
              · have := i3 e.on r2 hm
                omega
            simp [(hF e.on r2).2 hm]
      intro he
      rw [he] at hi
      cases hi
    have hlen : 0 < rs.length := List.length_pos_iff.2 hne
    have hget : ∃ i, rs[t % rs.length]? = some i := ⟨_, List.getElem?_eq_getElem (Nat.mod_lt _ hlen)⟩
    obtain ⟨i, hi⟩ := hget
    rw [hi]
    simp only
    have hmem : i ∈ rs := List.mem_of_getElem? hi
    rw [← hrs, List.mem_filter] at hmem
    obtain ⟨hm1, hm2⟩ := hmem
    have hilt : i < ops.size := by simpa using hm1
    have ho : ops[i]? = some ops[i] := by simp [hilt]
    rw [ho] at hm2
    simp only [Bool.and_eq_true, Bool.not_eq_true', Option.map_some, Option.getD_some, Array.all_eq_true_iff_forall_mem] at hm2
    have hni : i ∉ acc := fun hm => by rw [(h2 i hilt).2 hm] at hm2; cases hm2.1
    refine ih _ _ _ (by simpa using h1) (fun j hj => ?_) (List.nodup_cons.2 ⟨hni, h3⟩) (fun j hj => ?_) ?_ (by simp; omega)
    · simp only [Array.getD_eq_getD_getElem?, Array.getElem?_setIfInBounds, List.mem_cons]
      have := h2 j hj
      rw [Array.getD_eq_getD_getElem?] at this
      by_cases hij : i = j
      · subst hij
        simp [h1, hilt]
      · rw [if_neg hij]
        rw [this]
        simp [Ne.symm hij]
    · rcases List.mem_cons.1 hj with rfl | hj
      · exact hilt
      · exact h4 j hj
    · intro l1 j l2 hl o e ho' he hbd
      rw [List.reverse_cons] at hl
      rcases List.eq_nil_or_concat l2 with rfl | ⟨l2', x, rfl⟩
      · have hl' : acc.reverse ++ [i] = l1 ++ [j] := hl
        have := List.append_inj' hl' rfl
        obtain ⟨e1, e2⟩ := this
        injection e2 with e2
        subst e2
        rw [ho] at ho'
        obtain rfl := Option.some.inj ho'
        have := hm2.2 e he
        rw [hbd] at this
        simp only [Bool.not_true, Bool.false_or] at this
        obtain ⟨_, r2⟩ := hb i _ e ho he hbd
        rw [← e1]
        simpa using (hF e.on r2).1 this
      · have hl' : acc.reverse ++ [i] = (l1 ++ j :: l2') ++ [x] := by rw [hl]; simp
        have := List.append_inj' hl' rfl
        exact h5 l1 j l2' this.1 o e ho' he hbd

theorem linearise_lin {m : Region.Mode} {ops : Array Oper} (rank : Nat → Nat) (hb : ∀ i o e, ops[i]? = some o → e ∈ o.after → Region.binds m e = true → rank e.on < rank i ∧ e.on < ops.size) (t : Nat) : Lin m ops (Region.linearise m ops t) := by
  unfold Region.linearise
  refine go_lin rank hb ops.size t _ [] (by simp) (fun i hi => ?_) (by simp) (by simp) (by simp) (by simp)
  simp [Array.getD_eq_getD_getElem?, hi]

/-- What is asked of the edges: all but gc's own point back; gc's way there is an order, too. -/
def edgesOk (ops : Array Oper) (rho : List Nat) : Bool :=
  ops.toList.zipIdx.all fun p => p.1.after.toList.all fun e =>
    (match e.ground with | .gcOnly _ => true | _ => decide (e.on < p.2)) && (match e.ground with | .textOnly _ => true | _ => decide (rho.idxOf e.on < rho.idxOf p.2 ∧ e.on < ops.size))

theorem schedule_lin {ops : Array Oper} {rho : List Nat} (h : edgesOk ops rho = true) (mixed : Bool) (t : Nat) : Lin .any ops (Region.schedule mixed ops t) := by
  have hE : ∀ (i : Nat) (o : Oper) (e : Edge), ops[i]? = some o → e ∈ o.after → (match e.ground with | .gcOnly _ => true | _ => decide (e.on < i)) = true ∧ (match e.ground with | .textOnly _ => true | _ => decide (rho.idxOf e.on < rho.idxOf i ∧ e.on < ops.size)) = true := by
    intro i o e ho he
    unfold edgesOk at h
    rw [List.all_eq_true] at h
    have := h (o, i) (by rw [List.mem_zipIdx_iff_getElem?]; simpa using ho)
    rw [List.all_eq_true] at this
    have := this e (by simpa using he)
    rw [Bool.and_eq_true] at this
    exact this
  have hlt : ∀ i o, ops[i]? = some o → i < ops.size := fun i o h => (Array.getElem?_eq_some_iff.1 h).1
  have weak : ∀ m l, Lin m ops l → (∀ e, Region.binds .any e = true → Region.binds m e = true) → Lin .any ops l := fun m l L hw =>
    ⟨L.nodup, L.lt, L.all, fun l1 i l2 hl o e ho he hb => L.after l1 i l2 hl o e ho he (hw e hb)⟩
  have hany : ∀ t, Lin .any ops (Region.linearise .any ops t) := linearise_lin id fun i o e ho he hb => by
    have := (hE i o e ho he).1
    cases hg : e.ground <;> simp [Region.binds, hg] at hb this ⊢ <;> (refine ⟨this, ?_⟩; have := hlt i o ho; omega)
  have htext : ∀ t, Lin .any ops (Region.linearise .text ops t) := fun t => weak _ _ (linearise_lin id (fun i o e ho he hb => by
    have := (hE i o e ho he).1
    cases hg : e.ground <;> simp [Region.binds, hg] at hb this ⊢ <;> (refine ⟨this, ?_⟩; have := hlt i o ho; omega)) t) (fun e hb => by cases hg : e.ground <;> simp [Region.binds, hg] at hb ⊢)
  have hgc : ∀ t, Lin .any ops (Region.linearise .gc ops t) := fun t => weak _ _ (linearise_lin (rho.idxOf ·) (fun i o e ho he hb => by
    have := (hE i o e ho he).2
    cases hg : e.ground <;> simp [Region.binds, hg] at hb this ⊢ <;> exact this) t) (fun e hb => by cases hg : e.ground <;> simp [Region.binds, hg] at hb ⊢)
  unfold Region.schedule
  split
  · exact hany t
  · split
    · exact htext _
    · exact hgc _

end Go.Proofs.Ytlcjmchhnbdepaa
end

section
/- The abstract machine, sixteenth part: regions, read off the program, and that they are right. -/
set_option linter.unusedVariables false
set_option linter.unusedSimpArgs false
namespace Go.Proofs.Ytlcjmchhnbdepaa

def cOper (P : Program) (ops : Array Oper) (o : Oper) : AOper :=
  match o.guard with
  | none => { dst := o.dst, op := cOp P o.op, guard := none }
  | some (j, want) => match (ops[j]?).bind (·.dst) with
    | some t => { dst := o.dst, op := cOp P o.op, guard := some (t, want) }
    | none => { dst := o.dst, op := .n .fail, guard := none }

theorem cOper_dst (P : Program) (ops : Array Oper) (o : Oper) : (cOper P ops o).dst = o.dst := by
  unfold cOper
  split
  · rfl
  · split <;> rfl

theorem cOper_ok {P : Program} {C : ACalls} (hC : CallsOk P C) (ops : Array Oper) (o : Oper) : OpOk P C o (cOper P ops o).op := by
  unfold cOper
  split
  · exact cOp_ok hC o
  · split
    · exact cOp_ok hC o
    · exact NOk.fail

theorem cOper_wanted {P : Program} (ops : Array Oper) (o : Oper) {e : Env} {a : Act} {ι : Inj} (he : VRL ι e a.tmps.toList) {b : Bool} (h : awanted (cOper P ops o).guard e = some b) : Region.wanted o (yielded ops a.tmps) = b ∨ ((cOper P ops o).op = .n .fail ∧ b = true) := by
  unfold cOper at h ⊢
  cases hg : o.guard with
  | none =>
    rw [hg] at h
    simp only [awanted, Option.some.injEq] at h
    subst h
    exact .inl (by simp [Region.wanted, hg])
  | some p =>
    obtain ⟨j, want⟩ := p
    rw [hg] at h
    simp only at h ⊢
    cases ht : (ops[j]?).bind (·.dst) with
    | none =>
      rw [ht] at h
      simp only [awanted, Option.some.injEq] at h
      subst h
      exact .inr ⟨rfl, rfl⟩
    | some t =>
      rw [ht] at h
      simp only [awanted] at h
      left
      have hr := he.getD t undef
      have hcell : ∀ v, a.tmps.toList.getD t undef = v → (t < a.tmps.size → a.tmps[t]? = some v) := by
        intro v hv hlt
        rw [List.getD_eq_getElem?_getD, Array.getElem?_toList] at hv
        have : a.tmps[t]? = some a.tmps[t] := by simp [hlt]
        rw [this] at hv ⊢
        simpa using hv
      have hlt : e.getD t .undef ≠ .undef → t < a.tmps.size := by
        intro hne
        rcases Nat.lt_or_ge t a.tmps.size with hc | hc
        · exact hc
        exfalso
        apply hne
        have hl : List.length e = a.tmps.size := by simpa using he.length
        have hle : List.length e ≤ t := by omega
        rw [List.getD_eq_getElem?_getD, List.getElem?_eq_none hle]
        rfl
      split at h
      · rename_i c hc
        rw [hc] at hr
        simp only [VR] at hr
        have := hcell _ hr (hlt (by rw [hc]; simp))
        obtain rfl := Option.some.inj h
        simp [Region.wanted, hg, yielded, ht, this]
      · rename_i vs hc
        rw [hc] at hr
        simp only [VR] at hr
        obtain ⟨ws, hr, _⟩ := hr
        have := hcell _ hr (hlt (by rw [hc]; simp))
        obtain rfl := Option.some.inj h
        simp [Region.wanted, hg, yielded, ht, this]
      · cases h

/-! ### A region in its own order -/

theorem aop_sound {P : Program} {C : ACalls} {o : Oper} {ao : AOp} (hok : OpOk P C o ao) {ι : Inj} {M M' : Heap} {e : Env} {a : Act} {w : World} {v : AV} {next : Act → World → Prop} {Q : Exit → Act → World → Prop} (r : R ι M w) (he : VRL ι e a.tmps.toList) (h : aop C ao e M = some (v, M'))
    (hn : ∀ ι' v' w', Tr ι M w ι' M' w' → VR ι' v v' → next (a.put o.dst v') w') : o.wp P a w next Q := by
  cases ao with
  | p po =>
    simp only [aop] at h
    obtain ⟨u, hu, h⟩ := Option.map_eq_some_iff.1 h
    simp only [Prod.mk.injEq] at h
    obtain ⟨rfl, rfl⟩ := h
    obtain ⟨v', h1, h2⟩ := hok ι e a w u he hu
    exact NOk.of_run h1 (hn ι v' w (Tr.refl r) h2)
  | l lo =>
    simp only [aop] at h
    obtain ⟨u, hu, h⟩ := Option.map_eq_some_iff.1 h
    simp only [Prod.mk.injEq] at h
    obtain ⟨rfl, rfl⟩ := h
    obtain ⟨v', h1, h2⟩ := hok ι M e a w u r he hu
    exact NOk.of_run h1 (hn ι v' w (Tr.refl r) h2)
  | k ko =>
    simp only [aop] at h
    obtain ⟨⟨x, mk⟩, hu, h⟩ := Option.map_eq_some_iff.1 h
    simp only [Prod.mk.injEq] at h
    obtain ⟨rfl, rfl⟩ := h
    obtain ⟨v', w', ob, N, h1, h2, h3, h4⟩ := hok ι e a w x mk he hu
    have hnone := (r.fresh M.next (Nat.le_refl _)).2
    obtain ⟨hb, hv⟩ := h4 M.next (ι.set M.next ⟨w.heap.size, 0, N⟩) (Inj.set_le hnone _) (by simp [Inj.set])
    exact NOk.of_run h1 (hn _ v' w' (Tr.push r h2 h3 hb) hv)
  | n no =>
    simp only [aop] at h
    exact hok ι M e a w v M' next Q r he h hn

theorem aops_sound {P : Program} {C : ACalls} (hC : CallsOk P C) {ops : Array Oper} {Q : Exit → Act → World → Prop} : ∀ (l : List Nat) (ι : Inj) (M : Heap) (e : Env) (a : Act) (w : World) (e' : Env) (M' : Heap), (∀ i, i ∈ l → i < ops.size) → R ι M w → VRL ι e a.tmps.toList → a.defers = [] →
    aops C (l.map fun i => cOper P ops (ops.getD i default)) e M = some (e', M') → (∀ ι' a' w', Tr ι M w ι' M' w' → VRL ι' e' a'.tmps.toList → a'.defers = [] → Q .normal a' w') → wpOps P ops Q l a w
  | [], ι, M, e, a, w, e', M', _, r, he, hd, h, hq => by
    simp only [List.map_nil, aops, Option.some.injEq, Prod.mk.injEq] at h
    obtain ⟨rfl, rfl⟩ := h
    exact hq ι a w (Tr.refl r) he hd
  | i :: l, ι, M, e, a, w, e', M', hlt, r, he, hd, h, hq => by
    have hi := hlt i (by simp)
    have ho : ops[i]? = some ops[i] := by simp [hi]
    have hg : ops.getD i default = ops[i] := by simp [Array.getD_eq_getD_getElem?, hi]
    simp only [List.map_cons, aops, hg] at h
    simp only [wpOps, ho]
    have hok := cOper_ok hC ops ops[i]
    split at h
    · rename_i hw
      obtain ⟨⟨v, M1⟩, hop, h⟩ := Option.bind_eq_some_iff.1 h
      have hwant : Region.wanted ops[i] (yielded ops a.tmps) = true := by
        rcases cOper_wanted (P := P) ops ops[i] he hw with hw' | ⟨hf, _⟩
        · exact hw'
        · rw [hf] at hop
          simp [aop, aN] at hop
      rw [if_pos hwant]
      left
      rw [cOper_dst] at h
      refine aop_sound hok r he hop fun ι1 v' w' ht hv => ?_
      exact aops_sound hC l ι1 M1 _ _ w' e' M' (fun j hj => hlt j (by simp [hj])) ht.rel (put_VRL (VRL.mono (ht.le r) _ _ he) hv) (by rw [put_defers]; exact hd) h fun ι2 a2 w2 ht2 => hq ι2 a2 w2 (ht.trans ht2)
    · rename_i hw
      have hwant : ¬ Region.wanted ops[i] (yielded ops a.tmps) = true := by
        rcases cOper_wanted (P := P) ops ops[i] he hw with hw' | ⟨_, hf⟩
        · simp [hw']
        · cases hf
      rw [if_neg hwant]
      rw [cOper_dst] at h
      exact aops_sound hC l ι M _ _ w e' M' (fun j hj => hlt j (by simp [hj])) r (put_VRL he (VR.unit ι)) (by rw [put_defers]; exact hd) h hq
    · cases h

/-! ### A region whose order is drawn -/

def preds (o : Oper) : List Nat := (o.after.toList.filter (Region.binds .any)).map (·.on)

def ancs : List Oper → List Nat → List Nat
  | [], acc => acc
  | o :: r, acc => ancs r (acc ++ [(preds o).foldl (fun x p => x ||| 2 ^ p ||| acc.getD p 0) 0])

/-- Each ancestor is one step away, or behind such a step. -/
def Good (ops : List Oper) (A : List Nat) : Prop := ∀ i a, (A.getD i 0).testBit a = true → ∃ o, ops[i]? = some o ∧ ∃ p, p ∈ preds o ∧ (a = p ∨ (p < i ∧ (A.getD p 0).testBit a = true))

theorem anc_fold (acc : List Nat) (a : Nat) : ∀ (l : List Nat) (x : Nat), (l.foldl (fun x p => x ||| 2 ^ p ||| acc.getD p 0) x).testBit a = true → x.testBit a = true ∨ ∃ p, p ∈ l ∧ (a = p ∨ (acc.getD p 0).testBit a = true)
  | [], x, h => .inl h
  | p :: l, x, h => by
    rw [List.foldl_cons] at h
    rcases anc_fold acc a l _ h with h | ⟨q, hq, h⟩
    · rw [Nat.testBit_or, Nat.testBit_or, Nat.testBit_two_pow, Bool.or_eq_true, Bool.or_eq_true, decide_eq_true_eq] at h
      rcases h with (h | h) | h
      · exact .inl h
      · exact .inr ⟨p, by simp, .inl h.symm⟩
      · exact .inr ⟨p, by simp, .inr h⟩
    · exact .inr ⟨q, by simp [hq], h⟩

theorem ancs_good (all : List Oper) : ∀ (r pre : List Oper) (acc : List Nat), all = pre ++ r → acc.length = pre.length → Good all acc → Good all (ancs r acc)
  | [], _, acc, _, _, h => h
  | o :: r, pre, acc, he, hl, h => by
    simp only [ancs]
    refine ancs_good all r (pre ++ [o]) _ (by simp [he]) (by simp [hl]) fun i a ha => ?_
    have hgd : ∀ j, j < acc.length → ∀ x, (acc ++ [x]).getD j 0 = acc.getD j 0 := fun j hj x => by
      simp [List.getD_eq_getElem?_getD, List.getElem?_append_left hj]
    rcases Nat.lt_or_ge i acc.length with hi | hi
    · rw [hgd i hi] at ha
      obtain ⟨o', h1, p, h2, h3⟩ := h i a ha
      refine ⟨o', h1, p, h2, h3.imp id fun ⟨h4, h5⟩ => ⟨h4, ?_⟩⟩
      rw [hgd p (by omega)]
      exact h5
    · rcases Nat.eq_or_lt_of_le hi with e | hi
      · subst e
        have e1 : (acc ++ [(preds o).foldl (fun x p => x ||| 2 ^ p ||| acc.getD p 0) 0]).getD acc.length 0 = (preds o).foldl (fun x p => x ||| 2 ^ p ||| acc.getD p 0) 0 := by
          simp [List.getD_eq_getElem?_getD]
        rw [e1] at ha
        rcases anc_fold acc a _ _ ha with ha | ⟨p, hp, ha⟩
        · simp at ha
        refine ⟨o, by rw [he, hl]; simp, p, hp, ?_⟩
        rcases ha with ha | ha
        · exact .inl ha
        · have hplt : p < acc.length := by
            refine Classical.byContradiction fun hc => ?_
            rw [List.getD_eq_getElem?_getD, List.getElem?_eq_none (by omega)] at ha
            simp at ha
          refine .inr ⟨hplt, ?_⟩
          rw [hgd p hplt]
          exact ha
      · rw [List.getD_eq_getElem?_getD, List.getElem?_eq_none (by simp; omega)] at ha
        simp at ha

theorem good_closed {ops : List Oper} {A : List Nat} (h : Good ops A) {S : Nat → Prop} (hS : ∀ i, S i → ∀ o, ops[i]? = some o → ∀ p, p ∈ preds o → S p) : ∀ i, S i → ∀ a, (A.getD i 0).testBit a = true → S a := by
  intro i
  induction i using Nat.strongRecOn with
  | _ i ih =>
    intro hi a ha
    obtain ⟨o, h1, p, h2, h3⟩ := h i a ha
    have hp := hS i hi o h1 p h2
    rcases h3 with rfl | ⟨h3, h4⟩
    · exact hp
    · exact ih p h3 hp a h4

/-- The machine's own order: ahead of each loud operation what it hangs on, and no more. -/
def dTau (A : List Nat) (loud : Nat → Bool) (n : Nat) : List Nat :=
  let acc := (List.range n).foldl (fun acc j => if loud j then acc ++ ((List.range n).filter fun i => (A.getD j 0).testBit i && !acc.contains i) ++ [j] else acc) []
  acc ++ (List.range n).filter fun i => !acc.contains i

def ancP (A : List Nat) (tau : List Nat) (p q : Nat) : Bool := (A.getD (tau.getD q 0) 0).testBit (tau.getD p 0)

def dList (P : Program) (ops : Array Oper) (A : List Nat) (tau : List Nat) : List DOper :=
  let aops := ops.toList.map (cOper P ops)
  let at_ (i : Nat) : AOper := aops.getD i { dst := none, op := .n .fail, guard := none }
  let louds := tau.filter fun i => (at_ i).op.loud
  let ks := tau.filter fun i => (at_ i).op.isK
  tau.map fun i => { o := at_ i, lo := (louds.takeWhile fun j => (A.getD i 0).testBit j).length, ix := ks.idxOf i }

/-- An operation with its place, its number, what it hangs on, what it reads, and how many loud ones are ahead. -/
structure DZ where
  d : DOper
  p : Nat
  i : Nat
  m : Nat
  r : Nat
  c : Nat

def rdMask (l : List Nat) : Nat := l.foldl (fun x t => x ||| 2 ^ t) 0

theorem rdMask_fold (t : Nat) : ∀ (l : List Nat) (x : Nat), (t ∈ l ∨ x.testBit t = true) → (l.foldl (fun x t => x ||| 2 ^ t) x).testBit t = true
  | [], x, h => by simpa using h
  | u :: l, x, h => by
    rw [List.foldl_cons]
    refine rdMask_fold t l _ ?_
    rcases h with h | h
    · rcases List.mem_cons.1 h with rfl | h
      · right
        rw [Nat.testBit_or, Nat.testBit_two_pow]
        simp
      · exact .inl h
    · right
      rw [Nat.testBit_or, h]
      simp

theorem rdMask_mem {t : Nat} {l : List Nat} (h : t ∈ l) : (rdMask l).testBit t = true := rdMask_fold t l 0 (.inl h)

def dzOf (A : List Nat) : List DOper → List Nat → Nat → Nat → List DZ
  | d :: ds, i :: tau, p, c => ⟨d, p, i, A.getD i 0, rdMask d.o.rd, c⟩ :: dzOf A ds tau (p + 1) (if d.o.op.loud then c + 1 else c)
  | _, _, _, _ => []

def cntL (ds : List DOper) (j : Nat) : Nat := ((ds.take j).filter fun d => d.o.op.loud).length

theorem cntL_eq (ds : List DOper) : ∀ j, j ≤ ds.length → cntLoud ds j = cntL ds j
  | 0, _ => by simp [cntLoud, cntL]
  | j + 1, h => by
    have ih := cntL_eq ds j (by omega)
    unfold cntLoud cntL at ih ⊢
    rw [List.range_succ, List.filter_append, List.length_append, ih, List.take_add_one, List.filter_append, List.length_append]
    congr 1
    have hj : ds[j]? = some ds[j] := List.getElem?_eq_getElem (by omega)
    simp only [hj, Option.toList_some, List.filter_cons, List.filter_nil, loudAt]
    split <;> rfl

theorem dzOf_get (A : List Nat) : ∀ (ds : List DOper) (tau : List Nat) (p c j : Nat) (d : DOper) (i : Nat), ds[j]? = some d → tau[j]? = some i → (dzOf A ds tau p c)[j]? = some ⟨d, p + j, i, A.getD i 0, rdMask d.o.rd, c + cntL ds j⟩
  | [], _, _, _, _, _, _, h, _ => by simp at h
  | _ :: _, [], _, _, _, _, _, _, h => by simp at h
  | d :: ds, i :: tau, p, c, 0, d', i', h1, h2 => by
    simp at h1 h2
    subst h1 h2
    simp [dzOf, cntL]
  | d :: ds, i :: tau, p, c, j + 1, d', i', h1, h2 => by
    simp only [List.getElem?_cons_succ] at h1 h2
    simp only [dzOf, List.getElem?_cons_succ]
    rw [dzOf_get A ds tau _ _ j d' i' h1 h2]
    simp only [Option.some.injEq, DZ.mk.injEq, true_and]
    refine ⟨by omega, ?_⟩
    simp only [cntL, List.take_succ_cons, List.filter_cons]
    cases d.o.op.loud <;> simp <;> omega

def dCheck (nk : Nat) (dz : List DZ) : Bool :=
  (dz.all fun p => dz.all fun q =>
    (!q.m.testBit p.i || decide (p.p < q.p)) &&
    (p.p == q.p || (
      (match p.d.o.dst with | some t => q.d.o.dst != some t | none => true) &&
      (match q.d.o.dst with | some t => !(p.r.testBit t) || p.m.testBit q.i || q.m.testBit p.i | none => true) &&
      (!(q.d.o.op.loud && decide (p.p < q.p) && !p.d.o.op.plain) || q.m.testBit p.i) &&
      (!(p.d.o.op.isL && q.d.o.op.loud && decide (q.p < p.p) && decide (q.c < p.d.lo)) || p.m.testBit q.i) &&
      (!(p.d.o.op.isK && q.d.o.op.isK) || p.d.ix != q.d.ix)))) &&
  (dz.all fun p => !p.d.o.op.isK || decide (p.d.ix < nk))

theorem dCheck_cond {nk : Nat} {ds : List DOper} {A tau : List Nat} (hlen : ds.length = tau.length) (h : dCheck nk (dzOf A ds tau 0 0) = true) : DCond nk ds (fun p q => p < ds.length ∧ q < ds.length ∧ ancP A tau p q = true) := by
  unfold dCheck at h
  simp only [Bool.and_eq_true, List.all_eq_true] at h
  obtain ⟨h1, h2⟩ := h
  have lt : ∀ p (d : DOper), ds[p]? = some d → p < ds.length := fun p d h => (List.getElem?_eq_some_iff.1 h).1
  have tg : ∀ p, p < ds.length → tau[p]? = some (tau.getD p 0) := fun p hp => by
    rw [List.getD_eq_getElem?_getD, List.getElem?_eq_getElem (by omega)]
    rfl
  have hm : ∀ (p : Nat) (d : DOper), ds[p]? = some d → (⟨d, p, tau.getD p 0, A.getD (tau.getD p 0) 0, rdMask d.o.rd, cntLoud ds p⟩ : DZ) ∈ dzOf A ds tau 0 0 := fun p d hp => by
    have := dzOf_get A ds tau 0 0 p d _ hp (tg p (lt p d hp))
    rw [Nat.zero_add, Nat.zero_add, ← cntL_eq ds p (Nat.le_of_lt (lt p d hp))] at this
    exact List.mem_of_getElem? this
  have H : ∀ (p q : Nat) (d d' : DOper), ds[p]? = some d → ds[q]? = some d' → _ := fun p q d d' hp hq => h1 _ (hm p d hp) _ (hm q d' hq)
  have or1 : ∀ {a b : Bool}, (a || b) = true → a = false → b = true := fun {a b} h1 h2 => by subst h2; simpa using h1
  have N : ∀ (p q : Nat) (d d' : DOper), ds[p]? = some d → ds[q]? = some d' → p ≠ q → _ := fun p q d d' hp hq hne => or1 (H p q d d' hp hq).2 (by simpa using hne)
  constructor
  · rintro p q ⟨hp, hq, ha⟩
    have := (H p q _ _ (List.getElem?_eq_getElem hp) (List.getElem?_eq_getElem hq)).1
    have ha' : (A.getD (tau.getD q 0) 0).testBit (tau.getD p 0) = true := ha
    rw [ha'] at this
    simpa using this
  · intro p q d d' t hp hq hne ht
    have := N p q d d' hp hq hne
    simp only [Bool.and_eq_true] at this
    have := this.1.1.1.1
    rw [ht] at this
    simpa using this
  · intro p q d d' t hp hq hne ht hr
    have := N p q d d' hp hq hne
    simp only [Bool.and_eq_true] at this
    have := this.1.1.1.2
    rw [ht] at this
    simp [rdMask_mem hr] at this
    exact this.imp (fun h => ⟨lt _ _ hq, lt _ _ hp, by simpa [ancP] using h⟩) (fun h => ⟨lt _ _ hp, lt _ _ hq, by simpa [ancP] using h⟩)
  · intro p q d d' hp hq hlt hl hpl
    have := N p q d d' hp hq (by omega)
    simp only [Bool.and_eq_true] at this
    have := this.1.1.2
    simp [hlt, hl, hpl] at this
    exact ⟨lt _ _ hp, lt _ _ hq, by simpa [ancP] using this⟩
  · intro p d q hp hl hlt hloud hc
    have hq : q < ds.length := by have := lt _ _ hp; omega
    have hq' := List.getElem?_eq_getElem hq
    have := N p q d _ hp hq' (by omega)
    simp only [Bool.and_eq_true] at this
    have := this.1.2
    have hl2 : ds[q].o.op.loud = true := by simpa [loudAt, hq'] using hloud
    simp [hl, hlt, hl2, hc] at this
    exact ⟨hq, lt _ _ hp, by simpa [ancP] using this⟩
  · intro p d hp hk
    have := h2 _ (hm p d hp)
    simpa [hk] using this
  · intro p q d d' hp hq hk hk' hix
    refine Classical.byContradiction fun hne => ?_
    have := N p q d d' hp hq hne
    simp only [Bool.and_eq_true] at this
    have := this.2
    simp [hk, hk', hix] at this

def cDraw (P : Program) (ops : Array Oper) : ACode :=
  let A := ancs ops.toList []
  let n := ops.size
  let aops := ops.toList.map (cOper P ops)
  let tau := dTau A (fun i => (aops.getD i { dst := none, op := .n .fail, guard := none }).op.loud) n
  let ds := dList P ops A tau
  let nk := (aops.filter fun o => o.op.isK).length
  if (edgesOk ops (List.range n) || edgesOk ops (Region.linearise .gc ops 0)) && (tau.length == n && decide tau.Nodup && (List.range n).all fun i => tau.contains i) && dCheck nk (dzOf A ds tau 0 0) then .dreg nk ds else .fail

end Go.Proofs.Ytlcjmchhnbdepaa
end

section
/- The abstract machine, seventeenth part: drawn regions, code, functions: the machine is right. -/
set_option linter.unusedVariables false
set_option linter.unusedSimpArgs false
namespace Go.Proofs.Ytlcjmchhnbdepaa

theorem nodup_inj {l : List Nat} (h : l.Nodup) {i j x : Nat} (hi : l[i]? = some x) (hj : l[j]? = some x) : i = j := by
  obtain ⟨i1, i2⟩ := List.getElem?_eq_some_iff.1 hi
  obtain ⟨j1, j2⟩ := List.getElem?_eq_some_iff.1 hj
  rcases Nat.lt_trichotomy i j with hlt | he | hlt
  · exact absurd (i2.trans j2.symm) (List.pairwise_iff_getElem.1 h i j i1 j1 hlt)
  · exact he
  · exact absurd (j2.trans i2.symm) (List.pairwise_iff_getElem.1 h j i j1 i1 hlt)

theorem draw_all {P : Program} {C : ACalls} (hC : CallsOk P C) {ops : Array Oper} {A : List Nat} (hA : Good ops.toList A) {tau : List Nat} (htl : tau.length = ops.size) (htn : tau.Nodup) (hta : ∀ i, i < ops.size → i ∈ tau) {ds : List DOper} (hds : ds.length = tau.length)
    (hdo : ∀ (p i : Nat), tau[p]? = some i → ∃ (d : DOper) (o : Oper), ds[p]? = some d ∧ ops[i]? = some o ∧ d.o = cOper P ops o) {nk base : Nat} (c : DCond nk ds (fun p q => p < ds.length ∧ q < ds.length ∧ ancP A tau p q = true))
    {E : Nat → Env} {H : Nat → Heap} {G : Nat → List Heap} {V : Nat → AV} {W : Nat → Bool} {B : Nat → Option Blk} (r : DRun C base nk ds E H G V W B) (hg0 : G 0 = []) {ι0 : Inj} {M0 : Heap} {w0 : World} (hbase : M0.next = base)
    {L : List Nat} (hL : Lin .any ops L) {Q : Exit → Act → World → Prop} (hq : ∀ ι a w, Tr ι0 M0 w0 ι (H ds.length) w → VRL ι (E ds.length) a.tmps.toList → a.defers = [] → Q .normal a w) :
    ∀ (l dn : List Nat), L = dn ++ l → ∀ (q : Nat) (S : Nat → Bool) (ι : Inj) (a : Act) (w : World), (∀ p i, tau[p]? = some i → (S p = true ↔ i ∈ dn)) →
      DInv base nk ds E H V B (fun p q => p < ds.length ∧ q < ds.length ∧ ancP A tau p q = true) ι0 M0 w0 q S ι a w → wpOps P ops Q l a w := by
  intro l
  induction l with
  | nil =>
    intro dn hdn q S ι a w hS I
    simp only [wpOps]
    have hall : ∀ p, p < ds.length → S p = true := fun p hp => by
      have ht : tau[p]? = some tau[p] := by simp [show p < tau.length from by omega]
      have hlt := hL.lt
      rw [hS p _ ht]
      have : dn = L := by simpa using hdn.symm
      rw [this]
      refine hL.all _ ?_
      -- a place of tau is an operation
      have := hdo p _ ht
      obtain ⟨d, o, _, h2, _⟩ := this
      exact (Array.getElem?_eq_some_iff.1 h2).1
    have henv : envOf ds (E 0) V S = E ds.length := by
      rw [env_at c r ds.length (Nat.le_refl _)]
      unfold envOf
      refine List.map_congr_left fun t _ => ?_
      cases hw : writer ds t with
      | none => rfl
      | some p =>
        obtain ⟨d, hd, _⟩ := writer_some hw
        have hp := (List.getElem?_eq_some_iff.1 hd).1
        simp [hall p hp, hp]
    have hheap : heapOf base nk ds H B q S = H ds.length := by
      obtain ⟨g1, g2, g3⟩ := heap_quiet c r ds.length I.qle (Nat.le_refl _) fun j j1 j2 => by
        cases hj : loudAt ds j with
        | false => rfl
        | true => have := I.below j (hall j j2) hj; omega
      refine heap_ext (fun b => ?_) g1.symm
      by_cases hb : base ≤ b ∧ b < base + nk
      · rw [g3 (fun b p0 b1 b2 hs hq => (I.nones b b1 b2).1 p0 hs hq) b hb.1 hb.2]
        simp only [heapOf]
        rw [if_pos hb]
        cases hs : slotAt ds (b - base) with
        | none => exact ((I.nones b hb.1 hb.2).2 hs).symm
        | some p0 =>
          obtain ⟨d, hd, _⟩ := slotAt_some hs
          have hp := (List.getElem?_eq_some_iff.1 hd).1
          simp only
          by_cases h : p0 < q
          · rw [if_pos h, if_neg (by omega)]
          · rw [if_neg h, if_pos (hall p0 hp), if_pos ⟨by omega, hp⟩]
      · rw [g2 b hb]
        simp only [heapOf]
        rw [if_neg hb]
    have h1 := I.tr
    rw [hheap] at h1
    have h2 := I.env
    rw [henv] at h2
    exact hq ι a w h1 h2 I.defs
  | cons i l ih =>
    intro dn hdn q S ι a w hS I
    have hmem : i ∈ L := by rw [hdn]; simp
    have hi := hL.lt i hmem
    have hitau := hta i hi
    obtain ⟨p, hp⟩ := List.mem_iff_getElem?.1 hitau
    obtain ⟨d, o, hd, ho, hdo'⟩ := hdo p i hp
    have hplt := (List.getElem?_eq_some_iff.1 hd).1
    have hni : i ∉ dn := by
      have := hL.nodup
      rw [hdn, List.nodup_append] at this
      intro h
      exact this.2.2 i h i (by simp) rfl
    have hSp : S p = false := by
      cases h : S p with
      | false => rfl
      | true => exact absurd ((hS p i hp).1 h) hni
    -- what it hangs on is done
    have hclosed : ∀ j, j ∈ dn → ∀ o, ops.toList[j]? = some o → ∀ x, x ∈ preds o → x ∈ dn := by
      intro j hj o' ho' x hx
      obtain ⟨l1, l2, hl⟩ := List.append_of_mem hj
      unfold preds at hx
      obtain ⟨e, he, rfl⟩ := List.mem_map.1 hx
      obtain ⟨he, hb⟩ := List.mem_filter.1 he
      have := hL.after l1 j (l2 ++ i :: l) (by rw [hdn, hl]; simp) o' e (by simpa using ho') (by simpa using he) hb
      rw [hl]
      simp [this]
    have hanc : ∀ x, (A.getD i 0).testBit x = true → x ∈ dn := by
      intro x hx
      obtain ⟨o', ho', y, hy, hxy⟩ := hA i x hx
      have hyd : y ∈ dn := by
        unfold preds at hy
        obtain ⟨e, he, rfl⟩ := List.mem_map.1 hy
        obtain ⟨he, hb⟩ := List.mem_filter.1 he
        exact hL.after dn i l hdn o' e (by simpa using ho') (by simpa using he) hb
      rcases hxy with rfl | ⟨_, hxy⟩
      · exact hyd
      · exact good_closed hA (S := fun j => j ∈ dn) hclosed y hyd x hxy
    have hpre : ∀ s, (s < ds.length ∧ p < ds.length ∧ ancP A tau s p = true) → S s = true := by
      rintro s ⟨hs, _, ha⟩
      have hts : tau[s]? = some tau[s] := by simp [show s < tau.length from by omega]
      rw [hS s _ hts]
      refine hanc _ ?_
      unfold ancP at ha
      have e1 : tau.getD p 0 = i := by rw [List.getD_eq_getElem?_getD, hp]; rfl
      have e2 : tau.getD s 0 = tau[s] := by rw [List.getD_eq_getElem?_getD, hts]; rfl
      rw [e1, e2] at ha
      simpa using ha
    have hok : OpOk P C o d.o.op := by rw [hdo']; exact cOper_ok hC ops o
    have hdst : o.dst = d.o.dst := by rw [hdo', cOper_dst]
    have hstep := I.step c r hg0 hbase hd hSp hpre hok hdst
    have st := r.step p d hd
    have hagree := env_agree c r I.closed hd hSp hpre
    have hwant : awanted d.o.guard (envOf ds (E 0) V S) = some (W p) := by
      rw [← awanted_agree (e := E p) (fun t ht => hagree t (by simp only [AOper.rd, List.mem_append]; exact .inl ht))]
      exact st.want
    have hcw := cOper_wanted (P := P) ops o I.env (by rw [← hdo']; exact hwant)
    have hSm : ∀ s j, tau[s]? = some j → (more S p s = true ↔ j ∈ dn ++ [i]) := by
      intro s j hs
      by_cases hsp : s = p
      · subst hsp
        rw [hp] at hs
        obtain rfl := Option.some.inj hs
        simp [more]
      · rw [more_ne hsp, hS s j hs]
        have : j ≠ i := by
          rintro rfl
          exact hsp (nodup_inj htn hs hp)
        simp [this]
    simp only [wpOps, ho]
    cases hw : W p with
    | true =>
      rw [hw] at hcw
      have hwant' : Region.wanted o (yielded ops a.tmps) = true := by
        rcases hcw with h | ⟨hf, _⟩
        · exact h
        · rw [← hdo'] at hf
          have := (st.n .fail hw hf).1
          simp [aN] at this
      rw [if_pos hwant']
      left
      exact hstep.1 hw _ Q fun q' ι' v' w' I' => ih (dn ++ [i]) (by rw [hdn]; simp) q' (more S p) ι' _ w' hSm I'
    | false =>
      rw [hw] at hcw
      have hwant' : ¬ Region.wanted o (yielded ops a.tmps) = true := by
        rcases hcw with h | ⟨_, hf⟩
        · simp [h]
        · cases hf
      rw [if_neg hwant']
      obtain ⟨q', I'⟩ := hstep.2 hw
      exact ih (dn ++ [i]) (by rw [hdn]; simp) q' (more S p) ι _ w hSm I'

theorem draw_sound {P : Program} {C : ACalls} (hC : CallsOk P C) {id : Nat} {ops : Array Oper} {nk : Nat} {ds : List DOper} (hc : cDraw P ops = .dreg nk ds) {ι : Inj} {M : Heap} {e : Env} {a : Act} {w : World} (r : R ι M w) (he : VRL ι e a.tmps.toList) (hd : a.defers = []) {e' : Env} {M' : Heap}
    (h : adops C M.next nk ds e { M with next := M.next + nk } [] = some (e', M')) {Q : Exit → Act → World → Prop} (hq : ∀ ι' a' w', Tr ι M w ι' M' w' → VRL ι' e' a'.tmps.toList → a'.defers = [] → Q .normal a' w') : (Code.region id ops true).wp P Q a w := by
  unfold cDraw at hc
  simp only at hc
  split at hc
  case isFalse => cases hc
  rename_i hcond
  simp only [Bool.and_eq_true, beq_iff_eq, decide_eq_true_eq, List.all_eq_true] at hcond
  obtain ⟨⟨hedges, ⟨htl, htn⟩, hta⟩, hcheck⟩ := hcond
  injection hc with hc1 hc2
  rw [hc1, hc2] at hcheck
  have cnd := dCheck_cond (by rw [← hc2]; simp [dList]) hcheck
  obtain ⟨E, H, G, V, W, B, hr, q1, q2, q3, q4, q5⟩ := drun_of ds e _ _ e' M' h
  refine wp_region_draw fun t => ?_
  have hL : Lin .any ops (Region.schedule (P.follows .mixedOrders) ops t) := by
    rw [Bool.or_eq_true] at hedges
    rcases hedges with h | h
    · exact schedule_lin h (P.follows .mixedOrders) t
    · exact schedule_lin h (P.follows .mixedOrders) t
  have hA : Good ops.toList (ancs ops.toList []) := ancs_good ops.toList ops.toList [] [] (by simp) rfl (fun i a ha => by simp [List.getD_eq_getElem?_getD] at ha)
  have rd := r.drew (w.drawn + 1)
  have hta' : ∀ i, i < ops.size → i ∈ dTau (ancs ops.toList []) (fun i => ((ops.toList.map (cOper P ops)).getD i { dst := none, op := .n .fail, guard := none }).op.loud) ops.size := fun i hi => by
    have := hta i (by simpa using hi)
    simpa using this
  generalize htau : dTau (ancs ops.toList []) (fun i => ((ops.toList.map (cOper P ops)).getD i { dst := none, op := .n .fail, guard := none }).op.loud) ops.size = tau at *
  have hlt : ∀ i, i ∈ tau → i < ops.size := by
    intro i hi
    rcases Nat.lt_or_ge i ops.size with h | h
    · exact h
    · exfalso
      have := nodup_len (i :: List.range ops.size) tau (List.nodup_cons.2 ⟨by simpa using h, List.nodup_range⟩) (fun x hx => by
        rcases List.mem_cons.1 hx with rfl | hx
        · exact hi
        · exact hta' x (by simpa using hx))
      simp at this
      omega
  have hds : ds.length = tau.length := by rw [← hc2]; simp [dList]
  have hdo : ∀ (p i : Nat), tau[p]? = some i → ∃ (d : DOper) (o : Oper), ds[p]? = some d ∧ ops[i]? = some o ∧ d.o = cOper P ops o := by
    intro p i hp
    have hi := hlt i (List.mem_of_getElem? hp)
    have ho : ops[i]? = some ops[i] := by simp [hi]
    refine ⟨_, ops[i], by rw [← hc2]; simp only [dList, List.getElem?_map, hp, Option.map_some]; rfl, ho, ?_⟩
    simp [List.getD_eq_getElem?_getD, hi]
  have hbase : ∀ b, M.next ≤ b → b < M.next + nk → (H 0).get b = none := fun b b1 _ => by
    rw [q2]
    exact (r.fresh b b1).1
  have hheap : heapOf M.next nk ds H B 0 (fun _ => false) = { M with next := M.next + nk } := by
    refine heap_ext (fun b => ?_) (by simp [heapOf, q2])
    simp only [heapOf]
    split
    · rename_i hb
      have := (r.fresh b hb.1).1
      cases slotAt ds (b - M.next) <;> simp [this]
    · rw [q2]
  have hR0 : R ι { M with next := M.next + nk } { w with drawn := w.drawn + 1 } := ⟨rd.blk, rd.apart, fun b hb => rd.fresh b (by simp only at hb; omega)⟩
  refine draw_all hC hA htl htn hta' hds hdo (base := M.next) cnd hr q3 (ι0 := ι) (M0 := M) (w0 := w) rfl hL (fun ι' a' w' ht hv hd' => ?_) _ [] rfl 0 (fun _ => false) ι a _ (fun p i _ => by simp) ?_
  · rw [q5] at ht
    rw [q4] at hv
    exact hq ι' a' w' ht hv hd'
  · refine ⟨Nat.zero_le _, .inl rfl, fun j h => by simp at h, fun p s h => by simp at h, fun b b1 b2 => ⟨fun p0 _ _ => hbase b b1 b2, fun _ => hbase b b1 b2⟩, by rw [q2]; exact Nat.le_refl _, ?_, fun p d' _ _ _ => (r.fresh _ (by omega)).2, ?_, hd⟩
    · rw [hheap]
      exact ⟨hR0, fun _ _ => rfl, by simp, fun _ _ h => h, fun _ _ h _ => h, fun b x l h1 h2 h3 _ => ⟨b, x, l, h1, h2, h3, rfl⟩, fun _ _ _ => rfl, Nat.le_refl _, rfl, rfl, rfl⟩
    · have : envOf ds (E 0) V (fun _ => false) = e := by
        rw [q1]
        refine env_ext (envOf_length _ _) fun t => ?_
        rw [envOf_getD]
        split
        · cases writer ds t <;> simp
        · rename_i h
          have hle : List.length e ≤ t := by omega
          rw [List.getD_eq_getElem?_getD, List.getElem?_eq_none hle]
          rfl
      rw [this]
      exact he

/-! ### Code -/

abbrev Hints := List (List Nat)

def cCode (P : Program) : Code → Hints → ACode × Hints
  | .skip, h => (.skip, h)
  | .region _ ops true, h => (cDraw P ops, h)
  | .region _ ops false, h => (.reg ((List.range ops.size).map fun i => cOper P ops (ops.getD i default)), h)
  | .seq a b, h =>
    let x := cCode P a h
    let y := cCode P b x.2
    (.seq x.1 y.1, y.2)
  | .cond c a b, h => match cX c with
    | some ax =>
      let x := cCode P a h
      let y := cCode P b x.2
      (.cond ax x.1 y.1, y.2)
    | none => (.fail, h)
  | .block id c, h =>
    let x := cCode P c h
    (.block id x.1, x.2)
  | .loop c, h =>
    let x := cCode P c h.tail
    (.loop (h.headD []) x.1, x.2)
  | .exit id, h => (.exit id, h)
  | .ret, h => (.ret, h)
  | .rangeFunc .., h | .scope _, h | .label _, h | .goto _, h | .refuse _, h => (.fail, h)

def Ex.of : Ex → Exit
  | .normal => .normal
  | .exit id => .exit id
  | .ret => .ret

/-- What code is to keep. -/
def CodeOk (P : Program) (C : ACalls) (K : Nat) (c : Code) (ac : ACode) : Prop :=
  ∀ (ι : Inj) (M : Heap) (e : Env) (a : Act) (w : World) (x : Ex) (e' : Env) (M' : Heap) (Q : Exit → Act → World → Prop), R ι M w → VRL ι e a.tmps.toList → a.defers = [] → aexec C K ac e M = some (x, e', M') →
    (∀ ι' a' w', Tr ι M w ι' M' w' → VRL ι' e' a'.tmps.toList → a'.defers = [] → Q x.of a' w') → c.wp P Q a w

theorem loop_rounds {P : Program} {C : ACalls} {K : Nat} {c : Code} {ac : ACode} {keep : List Nat} (hc : CodeOk P C K c ac) {Q : Exit → Act → World → Prop} : ∀ (k : Nat) (ι : Inj) (M : Heap) (e : Env) (a : Act) (w : World) (x : Ex) (e' : Env) (M' : Heap), R ι M w → VRL ι e a.tmps.toList → a.defers = [] →
    aloop (aexec C K ac) keep k e M = some (x, e', M') → (∀ ι' a' w', Tr ι M w ι' M' w' → VRL ι' e' a'.tmps.toList → a'.defers = [] → Q x.of a' w') → Code.rounds P c Q k a w
  | 0, ι, M, e, a, w, x, e', M', r, he, hd, h, hq => by simp [aloop] at h
  | k + 1, ι, M, e, a, w, x, e', M', r, he, hd, h, hq => by
    simp only [aloop] at h
    rw [rounds_succ]
    split at h
    · rename_i e1 M1 hb
      refine hc ι M _ a w _ _ _ _ r (he.keepOnly keep 0) hd hb fun ι1 a1 w1 ht hv hd1 => ?_
      simp only [Ex.of, Exit.then]
      exact loop_rounds hc k ι1 M1 e1 a1 w1 x e' M' ht.rel hv hd1 h fun ι2 a2 w2 ht2 => hq ι2 a2 w2 (ht.trans ht2)
    · rename_i hne
      refine hc ι M _ a w _ _ _ _ r (he.keepOnly keep 0) hd h fun ι1 a1 w1 ht hv hd1 => ?_
      have := hq ι1 a1 w1 ht hv hd1
      cases x with
      | normal => exact absurd h (hne e' M')
      | exit id => exact this
      | ret => exact this

theorem code_sound {P : Program} {C : ACalls} (hC : CallsOk P C) (K : Nat) : ∀ (c : Code) (h : Hints), CodeOk P C K c (cCode P c h).1
  | .skip, hs => by
    intro ι M e a w x e' M' Q r he hd h hq
    simp only [cCode, aexec, Option.some.injEq, Prod.mk.injEq] at h
    obtain ⟨rfl, rfl, rfl⟩ := h
    exact wp_skip (hq ι a w (Tr.refl r) he hd)
  | .region id ops true, hs => by
    intro ι M e a w x e' M' Q r he hd h hq
    simp only [cCode] at h
    cases hc : cDraw P ops with
    | dreg nk ds =>
      rw [hc] at h
      simp only [aexec] at h
      obtain ⟨p, hp, h⟩ := Option.map_eq_some_iff.1 h
      obtain ⟨e1, M1⟩ := p
      simp only [Prod.mk.injEq] at h
      obtain ⟨rfl, rfl, rfl⟩ := h
      exact draw_sound hC hc r he hd hp hq
    | fail => rw [hc] at h; simp [aexec] at h
    | _ =>
      unfold cDraw at hc
      simp only at hc
      split at hc <;> cases hc
  | .region id ops false, hs => by
    intro ι M e a w x e' M' Q r he hd h hq
    simp only [cCode, aexec] at h
    obtain ⟨⟨e1, M1⟩, hp, h⟩ := Option.map_eq_some_iff.1 h
    simp only [Prod.mk.injEq] at h
    obtain ⟨rfl, rfl, rfl⟩ := h
    exact wp_region (aops_sound hC _ ι M e a w _ _ (fun i hi => by simpa using hi) r he hd hp hq)
  | .seq c1 c2, hs => by
    intro ι M e a w x e' M' Q r he hd h hq
    simp only [cCode, aexec] at h
    refine wp_seq ?_
    split at h
    · rename_i e1 M1 h1
      refine code_sound hC K c1 hs ι M e a w _ _ _ _ r he hd h1 fun ι1 a1 w1 ht hv hd1 => ?_
      simp only [Ex.of, Exit.then]
      exact code_sound hC K c2 _ ι1 M1 e1 a1 w1 x e' M' Q ht.rel hv hd1 h fun ι2 a2 w2 ht2 => hq ι2 a2 w2 (ht.trans ht2)
    · rename_i hne
      refine code_sound hC K c1 hs ι M e a w _ _ _ _ r he hd h fun ι1 a1 w1 ht hv hd1 => ?_
      have := hq ι1 a1 w1 ht hv hd1
      cases x with
      | normal => exact absurd h (hne e' M')
      | exit id => exact this
      | ret => exact this
  | .cond c c1 c2, hs => by
    intro ι M e a w x e' M' Q r he hd h hq
    simp only [cCode] at h
    cases hx : cX c with
    | none => rw [hx] at h; simp [aexec] at h
    | some ax =>
      rw [hx] at h
      simp only [aexec] at h
      have hv := cX_VR hx he
      split at h
      · rename_i hb
        rw [hb] at hv
        simp only [VR] at hv
        exact wp_cond_true hv (code_sound hC K c1 _ ι M e a w x e' M' Q r he hd h hq)
      · rename_i hb
        rw [hb] at hv
        simp only [VR] at hv
        exact wp_cond_false hv (code_sound hC K c2 _ ι M e a w x e' M' Q r he hd h hq)
      · cases h
  | .block id c, hs => by
    intro ι M e a w x e' M' Q r he hd h hq
    simp only [cCode, aexec] at h
    refine wp_block ?_
    split at h
    · rename_i i e1 M1 h1
      refine code_sound hC K c hs ι M e a w _ _ _ _ r he hd h1 fun ι1 a1 w1 ht hv hd1 => ?_
      simp only [Ex.of, Exit.inBlock]
      split at h
      · rename_i hi
        simp only [Option.some.injEq, Prod.mk.injEq] at h
        obtain ⟨rfl, rfl, rfl⟩ := h
        rw [if_pos hi]
        exact hq ι1 a1 w1 ht hv hd1
      · rename_i hi
        simp only [Option.some.injEq, Prod.mk.injEq] at h
        obtain ⟨rfl, rfl, rfl⟩ := h
        rw [if_neg hi]
        exact hq ι1 a1 w1 ht hv hd1
    · rename_i hne
      refine code_sound hC K c hs ι M e a w _ _ _ _ r he hd h fun ι1 a1 w1 ht hv hd1 => ?_
      have := hq ι1 a1 w1 ht hv hd1
      cases x with
      | normal => exact this
      | exit i => exact absurd h (hne i e' M')
      | ret => exact this
  | .loop c, hs => by
    intro ι M e a w x e' M' Q r he hd h hq
    simp only [cCode, aexec] at h
    exact wp_loop_rounds K (loop_rounds (code_sound hC K c _) K ι M e a w x e' M' r he hd h hq)
  | .exit id, hs => by
    intro ι M e a w x e' M' Q r he hd h hq
    simp only [cCode, aexec, Option.some.injEq, Prod.mk.injEq] at h
    obtain ⟨rfl, rfl, rfl⟩ := h
    exact wp_exit (hq ι a w (Tr.refl r) he hd)
  | .ret, hs => by
    intro ι M e a w x e' M' Q r he hd h hq
    simp only [cCode, aexec, Option.some.injEq, Prod.mk.injEq] at h
    obtain ⟨rfl, rfl, rfl⟩ := h
    exact wp_ret (hq ι a w (Tr.refl r) he hd)
  | .rangeFunc .., hs => by
    intro ι M e a w x e' M' Q r he hd h hq
    simp [cCode, aexec] at h
  | .scope _, hs => by
    intro ι M e a w x e' M' Q r he hd h hq
    simp [cCode, aexec] at h
  | .label _, hs => by
    intro ι M e a w x e' M' Q r he hd h hq
    simp [cCode, aexec] at h
  | .goto _, hs => by
    intro ι M e a w x e' M' Q r he hd h hq
    simp [cCode, aexec] at h
  | .refuse _, hs => by
    intro ι M e a w x e' M' Q r he hd h hq
    simp [cCode, aexec] at h

end Go.Proofs.Ytlcjmchhnbdepaa
end

section
/- The abstract machine, eighteenth part: functions and calls: what the machine comes to, the model comes to. -/
set_option linter.unusedVariables false
set_option linter.unusedSimpArgs false
namespace Go.Proofs.Ytlcjmchhnbdepaa

def cRes (P : Program) : ResultVar → Option ARes
  | .tmp t => some (.tmp t)
  | .cell t ty => match aggOf P ty, szOf P ty with
    | some g, some n => some (.cell t g n)
    | _, _ => none

def cResL (P : Program) : List ResultVar → Option (List ARes)
  | [] => some []
  | x :: l => match cRes P x, cResL P l with
    | some a, some r => some (a :: r)
    | _, _ => none

def cFunc (P : Program) (f : FuncId) (h : Hints) : Option AFunc :=
  match P.funcs[f]? with
  | some fn => match fn.body, cResL P fn.results.toList with
    | some c, some rs => if fn.name == "runtime.NumGoroutine" then none else some { nargs := fn.params.size + fn.nfree, ntmps := fn.ntmps, code := (cCode P c h).1, results := rs }
    | _, _ => none
  | none => none

theorem res_run {P : Program} {x : ResultVar} {a : ARes} (hc : cRes P x = some a) {ι : Inj} {M : Heap} {w : World} (r : R ι M w) {e : Env} {tmps : Array Value} (he : VRL ι e tmps.toList) {v : AV} (h : aRes a e M = some v) :
    ∃ v', ((match x with | .tmp t => pure (tmps.getD t undef) | .cell a t => do loadVar t (← asAddr (tmps.getD a undef))) : Sem Value).run P w = .ok v' w ∧ VR ι v v' := by
  have hg : ∀ t, VR ι (e.getD t .undef) (tmps.getD t undef) := fun t => by
    have := he.getD t undef
    rw [Array.getD_eq_getD_getElem?]
    rw [List.getD_eq_getElem?_getD (l := tmps.toList)] at this
    simpa using this
  cases x with
  | tmp t =>
    simp only [cRes, Option.some.injEq] at hc
    subst hc
    simp only [aRes] at h
    split at h
    · cases h
    · obtain rfl := Option.some.inj h
      exact ⟨_, rfl, hg t⟩
  | cell t ty =>
    simp only [cRes] at hc
    split at hc
    case h_2 => cases hc
    rename_i g n hga hgn
    obtain rfl := Option.some.inj hc
    simp only [aRes] at h
    obtain ⟨ad, v', h1, h2, h3⟩ := loadVar_run (P := P) r hga hgn (hg t) h
    refine ⟨v', ?_, h3⟩
    simp [h1, asAddr, h2]

theorem resL_run {P : Program} {ι : Inj} {M : Heap} {w : World} (r : R ι M w) {e : Env} {tmps : Array Value} (he : VRL ι e tmps.toList) : ∀ (l : List ResultVar) (al : List ARes) (vs : List AV), cResL P l = some al → aResL al e M = some vs →
    ∃ vs', ((l.mapM fun x => (match x with | .tmp t => pure (tmps.getD t undef) | .cell a t => do loadVar t (← asAddr (tmps.getD a undef)) : Sem Value)) : Sem (List Value)).run P w = .ok vs' w ∧ VRL ι vs vs'
  | [], al, vs, hc, h => by
    simp only [cResL, Option.some.injEq] at hc
    subst hc
    simp only [aResL, Option.some.injEq] at h
    subst h
    exact ⟨[], by simp, by simp [VRL]⟩
  | x :: l, al, vs, hc, h => by
    simp only [cResL] at hc
    split at hc
    case h_2 => cases hc
    rename_i a al' h1 h2
    obtain rfl := Option.some.inj hc
    simp only [aResL] at h
    obtain ⟨v, hv, h⟩ := Option.bind_eq_some_iff.1 h
    obtain ⟨vs2, hvs, rfl⟩ := Option.map_eq_some_iff.1 h
    obtain ⟨v', q1, q2⟩ := res_run (P := P) h1 r he hv
    obtain ⟨vs', q3, q4⟩ := resL_run r he l al' vs2 h2 hvs
    refine ⟨v' :: vs', ?_, by simp only [VRL]; exact ⟨q2, q4⟩⟩
    simp only [List.mapM_cons, Sem.run_bind, q1, Result.andThen_ok, q3, Sem.run_pure]

theorem results_run {P : Program} {fn : Func} {al : List ARes} (hc : cResL P fn.results.toList = some al) {ι : Inj} {M : Heap} {w : World} (r : R ι M w) {e : Env} {tmps : Array Value} (he : VRL ι e tmps.toList) {v : AV} (h : aResults al e M = some v) :
    ∃ v', (results fn tmps).run P w = .ok v' w ∧ VR ι v v' := by
  unfold aResults at h
  obtain ⟨vs, hvs, h⟩ := Option.map_eq_some_iff.1 h
  obtain ⟨vs', q1, q2⟩ := resL_run (P := P) r he _ al vs hc hvs
  unfold results
  rw [Sem.run_bind, Array.mapM_eq_mapM_toList, Sem.run_map]
  erw [q1]
  simp only [Result.andThen_ok, Sem.run_pure]
  refine ⟨_, rfl, ?_⟩
  subst h
  match vs, vs', q2 with
  | [], [], q2 => simp [VR, VRL]
  | [x], [y], q2 =>
    simp only [VRL] at q2
    simpa using q2.1
  | x :: x2 :: xs, y :: y2 :: ys, q2 =>
    simp only [VR]
    refine ⟨(y :: y2 :: ys).toArray, by simp, ?_⟩
    simpa using q2
  | [], _ :: _, q2 => simp [VRL] at q2
  | _ :: _, [], q2 => simp [VRL] at q2
  | [_], _ :: _ :: _, q2 => simp [VRL] at q2
  | _ :: _ :: _, [_], q2 => simp [VRL] at q2

theorem cFunc_bodied {P : Program} {f : FuncId} {h : Hints} {af : AFunc} (hc : cFunc P f h = some af) : Bodied P f := by
  unfold cFunc at hc
  split at hc
  case h_2 => cases hc
  rename_i fn hfn
  split at hc
  case h_2 => cases hc
  rename_i c rs hb _
  split at hc
  · cases hc
  · rename_i hn
    exact ⟨fn, c, hfn, hb, by simpa using hn⟩

theorem body_sound {P : Program} {C : ACalls} (hC : CallsOk P C) (K : Nat) {f : FuncId} {hs : Hints} {af : AFunc} (hc : cFunc P f hs = some af) : Sound P f (abody C K af) := by
  intro args M v M' h ι w vs r hv
  unfold cFunc at hc
  split at hc
  case h_2 => cases hc
  rename_i fn hfn
  split at hc
  case h_2 => cases hc
  rename_i c rs hb hrs
  split at hc
  · cases hc
  obtain rfl := Option.some.inj hc
  unfold abody at h
  simp only at h
  split at h
  case isFalse => cases h
  rename_i hlen
  have hsz : vs.size = fn.params.size + fn.nfree := by
    have := hv.length
    simp at this
    omega
  refine calls_of_wp hfn hb ?_
  have he : VRL ι (args ++ List.replicate (fn.ntmps - (fn.params.size + fn.nfree)) (.tuple [])) ({ tmps := vs ++ Array.replicate (fn.ntmps - vs.size) undef, defers := [] } : Act).tmps.toList := by
    simp only [Array.toList_append, Array.toList_replicate]
    refine hv.append ?_
    rw [hsz]
    refine VRL.of_get (by simp) fun i a b ha hb => ?_
    simp only [List.getElem?_replicate] at ha hb
    split at ha
    case isFalse => cases ha
    rename_i hi
    rw [if_pos hi] at hb
    obtain rfl := Option.some.inj ha
    obtain rfl := Option.some.inj hb
    exact VR.unit ι
  have fin : ∀ (x : Ex) (e' : Env) (M1 : Heap), (x = .normal ∨ x = .ret) → aexec C K (cCode P c hs).1 (args ++ List.replicate (fn.ntmps - (fn.params.size + fn.nfree)) (.tuple [])) M = some (x, e', M1) → (aResults rs e' M1).map (fun v => (v, M1)) = some (v, M') →
      c.wp P (bodyPost P fn fun e w' => ∃ ι' v', e = .returned v' ∧ VR ι' v v' ∧ Tr ι M w ι' M' w') { tmps := vs ++ Array.replicate (fn.ntmps - vs.size) undef, defers := [] } w := by
    intro x e' M1 hx hex hres
    obtain ⟨u, hu, hres⟩ := Option.map_eq_some_iff.1 hres
    simp only [Prod.mk.injEq] at hres
    obtain ⟨rfl, rfl⟩ := hres
    refine code_sound hC K c hs ι M _ _ w x e' M1 _ r he rfl hex fun ι' a' w' ht hv' hd => ?_
    obtain ⟨v', q1, q2⟩ := results_run (P := P) hrs ht.rel hv' hu
    have : a'.defers = [] ∧ ∃ v0, (results fn a'.tmps).run P w' = .ok v0 w' ∧ (∃ ι' v', Ending.returned v0 = .returned v' ∧ VR ι' u v' ∧ Tr ι M w ι' M1 w') := ⟨hd, v', q1, ι', v', rfl, q2, ht⟩
    rcases hx with rfl | rfl <;> exact this
  split at h
  · rename_i e' M1 hex
    exact fin .normal e' M1 (.inl rfl) hex h
  · rename_i e' M1 hex
    exact fin .ret e' M1 (.inr rfl) hex h
  · cases h

/-- The machine is right. -/
theorem acall_sound {P : Program} {G : FuncId → Option (List AV → Heap → Option (AV × Heap))} {T : FuncId → Option AFunc} (hG : ∀ f g, G f = some g → (Bodied P f ∧ Sound P f g) ∨ ExtOk P f g) (hT : ∀ f af, T f = some af → ∃ h, cFunc P f h = some af) (K : Nat) : ∀ d, CallsOk P (acall G T K d)
  | 0 => fun f => .inl ⟨fun args M r h => by simp [acall] at h, fun args M v M' h => by simp [acall] at h⟩
  | d + 1 => fun f => by
    have ih := acall_sound hG hT K d
    cases hg : G f with
    | some g =>
      have e : acall G T K (d + 1) f = g := by funext a M; simp only [acall, hg]
      rw [e]
      rcases hG f g hg with ⟨q1, q2⟩ | q
      · exact .inl ⟨fun _ _ _ _ => q1, q2⟩
      · exact .inr q
    | none =>
      left
      constructor
      · intro args M r h
        simp only [acall, hg] at h
        split at h
        · rename_i af haf
          obtain ⟨hs, hc⟩ := hT f af haf
          exact cFunc_bodied hc
        · cases h
      · intro args M v M' h
        simp only [acall, hg] at h
        split at h
        · rename_i af haf
          obtain ⟨hs, hc⟩ := hT f af haf
          exact body_sound ih K hc args M v M' h
        · cases h

end Go.Proofs.Ytlcjmchhnbdepaa
end

section
/- The abstract machine, nineteenth part: the law's row: what a call that turns nothing old and tells true is to the statement. -/
set_option linter.unusedVariables false
set_option linter.unusedSimpArgs false
namespace Go.Proofs.Ytlcjmchhnbdepaa
open Go.ChangeShapes Go.WideShapes Go.ChangeAt Go.RowKit

theorem trodAll_below {H : Type} {enc : TypeId × Value → H} {P : Program} (hl : laidOutB P = true) {W W' : World} (bel : Below W.heap.size W W') :
    ∀ (ts : List TypeId) (vs : List Value) (ds : List (DataW H)) (p : List MemPlace), (ts.all fun t => P.readableRec t && decide (t < P.types.size)) = true →
      DataW.TrodAll enc P W 0 (fun _ => true) true ts vs ds p → DataW.TrodAll enc P W' 0 (fun b => decide (b < W.heap.size)) true ts vs ds p
  | [], [], [], p, _, h => by simpa [DataW.TrodAll] using h
  | t :: ts, v :: vs, d :: ds, p, ht, h => by
    simp only [List.all_cons, Bool.and_eq_true, decide_eq_true_eq] at ht
    simp only [DataW.TrodAll] at h ⊢
    obtain ⟨p1, p2, h1, h2, rfl⟩ := h
    refine ⟨p1, p2, ?_, trodAll_below hl bel ts vs ds p2 (by simpa using ht.2) h2, rfl⟩
    refine Below.trod hl ht.1.1 ht.1.2 h1 bel ?_
    obtain ⟨n, hn⟩ := h1
    exact DataW.trod_lt n t _ _ hn
  | [], _ :: _, _, _, _, h => by simp [DataW.TrodAll] at h
  | [], [], _ :: _, _, _, h => by simp [DataW.TrodAll] at h
  | _ :: _, [], _, _, _, h => by simp [DataW.TrodAll] at h
  | _ :: _, _ :: _, [], _, _, h => by simp [DataW.TrodAll] at h

theorem law_post {H : Type} {enc : TypeId × Value → H} {P : Program} {f : Func} {s : ChangeSpec} {W W' : World} {args : Array Value} {ds gs : List (DataW H)} {before : List MemPlace} {rt : TypeId}
    (hl : laidOutB P = true) (hps : (f.params.toList.all fun t => P.readableRec t && decide (t < P.types.size)) = true) (hvars : s.vars = []) (hres : f.resultTypes = #[rt]) (hrt : P.underlying rt = some .bool)
    (hfn : s.fn H ds = { results := [.lit (.bool true)], args := ds })
    (hW : DataW.Whole enc P f.params.toList s.vars false W args.toList ds gs before) (bel : Below W.heap.size W W') :
    s.post enc P f false true false false W args (.bool true) W' := by
  have hW' := hW
  obtain ⟨p, q, hA, hV, rfl, hfz, hnd⟩ := hW
  rw [hvars] at hV
  have hgs : gs = [] := by
    cases gs with
    | nil => rfl
    | cons _ _ => simp [DataW.TrodVars] at hV
  subst hgs
  unfold ChangeSpec.post
  refine ⟨ds, [], _, [], p, [], hW', ?_, ?_, ?_, bel.frame _, fun h => by cases h⟩
  · rw [List.append_nil, hfn, hres]
    exact trodAll_mk1 (shut_bool hrt _)
  · rw [List.append_nil, hfn]
    exact trodAll_below hl bel _ _ _ _ hps hA
  · rw [List.append_nil, hfn, hvars]
    simp [DataW.TrodVars]

/-- What is only read is as it was. -/
theorem below_of_tr {ι ι' : Inj} {M M' : Heap} {w w' : World} (ht : Tr ι M w ι' M' w') (hro : ∀ b x, M.get b = some x → x.own = false) : Below w.heap.size w w' :=
  ⟨ht.os, ht.tape, ht.output, ht.size, fun k hk => ht.keep k hk fun b x l h1 h2 => by rw [hro b x h1] at h2; cases h2⟩

theorem R.empty (w : World) : R (fun _ => none) Heap.empty w := ⟨fun b x h => by simp [Heap.empty] at h, fun b b' x x' l l' h => by simp [Heap.empty] at h, fun b _ => ⟨rfl, rfl⟩⟩

/-- A function without parameters that tells true, run upon nothing. -/
theorem closed_calls {P : Program} {f : FuncId} {g : List AV → Heap → Option (AV × Heap)} (hs : Sound P f g) {M' : Heap} (h : g [] Heap.empty = some (.bool true, M')) (w : World) :
    Calls P f #[] w fun e w' => e = .returned (.bool true) ∧ Below w.heap.size w w' := by
  refine (hs [] Heap.empty _ M' h (fun _ => none) w #[] (R.empty w) (by simp [VRL])).mono ?_
  rintro e w' ⟨ι', v', rfl, hv, ht⟩
  simp only [VR] at hv
  subst hv
  exact ⟨rfl, below_of_tr ht fun b x h => by simp [Heap.empty] at h⟩

/-- What a result is, without its memory. -/
def tellsTrue (r : Option (AV × Heap)) : Bool := match r with
  | some (.bool b, _) => b
  | _ => false

theorem tellsTrue_iff {r : Option (AV × Heap)} (h : tellsTrue r = true) : ∃ M', r = some (.bool true, M') := by
  unfold tellsTrue at h
  split at h
  · rename_i b M
    subst h
    exact ⟨M, rfl⟩
  · cases h

end Go.Proofs.Ytlcjmchhnbdepaa
end

section
/- The abstract machine, twentieth part: what the arguments hold: every reading of the statement's form is one of the machine's, over memory that is only read. -/
set_option linter.unusedVariables false
set_option linter.unusedSimpArgs false
namespace Go.Proofs.Ytlcjmchhnbdepaa
open Go.ChangeShapes Go.WideShapes Go.ChangeAt Go.RowKit

/-- What is read, without addresses. -/
inductive D where
  | bool (b : Bool)
  | int (k : IntKind) (n : Int)
  | str (s : List UInt8)
  | list (l : List D)
  | agg (l : List D)
  | other

mutual
def toD {H : Type} : DataW H → D
  | .lit (.bool b) => .bool b
  | .lit (.int k n) => .int k n
  | .lit (.string s) => .str s
  | .nil => .list []
  | .slice es _ => .list (toDs es)
  | .agg es => .agg (toDs es)
  | _ => .other
def toDs {H : Type} : List (DataW H) → List D
  | [] => []
  | d :: r => toD d :: toDs r
end

theorem toDs_eq {H : Type} : ∀ l : List (DataW H), toDs l = l.map toD
  | [] => rfl
  | d :: r => by simp [toDs, toDs_eq r]

mutual
/-- What the machine's cells say of it. -/
def Rd (M : Heap) : D → List AV → Prop
  | .bool b, cs => cs = [.bool b]
  | .int k n, cs => cs = [.int k n]
  | .str s, cs => cs = [.str s]
  | .list l, cs => (l = [] ∧ ∃ sz, cs = [.slice none sz 0 0 true]) ∨
      ∃ b o sz cap, 0 < sz ∧ l.length ≤ cap ∧ cs = [.slice (some (b, o)) sz l.length cap true] ∧ (l ≠ [] → ∃ pieces, M.read b o (l.length * sz) = some pieces.flatten ∧ (∀ p ∈ pieces, p.length = sz) ∧ Parts M l pieces)
  | .agg l, cs => ∃ pieces, cs = pieces.flatten ∧ Parts M l pieces
  | .other, _ => False
def Parts (M : Heap) : List D → List (List AV) → Prop
  | [], [] => True
  | d :: r, p :: s => Rd M d p ∧ Parts M r s
  | _, _ => False
end

mutual
theorem Rd.mono {M M' : Heap} (h : M.Sub M') : ∀ (d : D) (cs : List AV), Rd M d cs → Rd M' d cs
  | .bool b, cs, e => by simpa [Rd] using e
  | .int k n, cs, e => by simpa [Rd] using e
  | .str s, cs, e => by simpa [Rd] using e
  | .list l, cs, e => by
    simp only [Rd] at e ⊢
    rcases e with e | ⟨b, o, sz, cap, h1, h2, h3, h4⟩
    · exact .inl e
    · refine .inr ⟨b, o, sz, cap, h1, h2, h3, fun hl => ?_⟩
      obtain ⟨pieces, g1, g2, g3⟩ := h4 hl
      exact ⟨pieces, read_sub h g1, g2, Parts.mono h _ _ g3⟩
  | .agg l, cs, e => by
    simp only [Rd] at e ⊢
    obtain ⟨pieces, g1, g3⟩ := e
    exact ⟨pieces, g1, Parts.mono h _ _ g3⟩
  | .other, cs, e => by simp [Rd] at e
theorem Parts.mono {M M' : Heap} (h : M.Sub M') : ∀ (l : List D) (ps : List (List AV)), Parts M l ps → Parts M' l ps
  | [], [], _ => by simp [Parts]
  | d :: r, p :: s, e => by
    simp only [Parts] at e ⊢
    exact ⟨Rd.mono h _ _ e.1, Parts.mono h _ _ e.2⟩
  | [], _ :: _, e => by simp [Parts] at e
  | _ :: _, [], e => by simp [Parts] at e
end

/-- Shapes of what is read. -/
inductive Sh where
  | bool
  | int (k : IntKind)
  | str
  | list (e : Sh)
  | agg (l : List Sh)

mutual
def D.is : Sh → D → Prop
  | .bool, d => ∃ b, d = .bool b
  | .int k, d => ∃ n, d = .int k n ∧ k.min ≤ n ∧ n ≤ k.max
  | .str, d => ∃ s, d = .str s
  | .list e, d => ∃ l, d = .list l ∧ ∀ x ∈ l, D.is e x
  | .agg ss, d => ∃ l, d = .agg l ∧ D.are ss l
def D.are : List Sh → List D → Prop
  | [], [] => True
  | s :: ss, d :: l => D.is s d ∧ D.are ss l
  | _, _ => False
end

def mapO {α β : Type} (f : α → Option β) : List α → Option (List β)
  | [] => some []
  | x :: l => match f x, mapO f l with
    | some a, some r => some (a :: r)
    | _, _ => none

def shOf (P : Program) : Nat → TypeId → Option Sh
  | 0, _ => none
  | k + 1, t => match P.underlying t with
    | some .bool => some .bool
    | some (.int i) => some (.int i)
    | some .string => some .str
    | some (.slice e) => if P.cellsOf e = 0 then none else (shOf P k e).map .list
    | some (.struct fs) => (mapO (shOf P k) (fs.toList.map fun f => f.type)).map .agg
    | some (.array n e) => (shOf P k e).map fun s => .agg (List.replicate n s)
    | _ => none

def shOfs (P : Program) (k : Nat) (l : List TypeId) : Option (List Sh) := mapO (shOf P k) l

def ReadOnly (M : Heap) : Prop := ∀ b x, M.get b = some x → x.own = false

structure Grow (ι : Inj) (M : Heap) (ι' : Inj) (M' : Heap) (W : World) : Prop where
  le : ι.Le ι'
  sub : M.Sub M'
  next : M.next ≤ M'.next
  rel : R ι' M' W
  ro : ReadOnly M'

theorem Heap.Sub.refl (M : Heap) : M.Sub M := fun _ _ h => h
theorem Heap.Sub.trans {A B C : Heap} (h : A.Sub B) (k : B.Sub C) : A.Sub C := fun _ _ e => k _ _ (h _ _ e)
theorem Grow.refl {ι : Inj} {M : Heap} {W : World} (r : R ι M W) (ro : ReadOnly M) : Grow ι M ι M W := ⟨.refl _, .refl _, Nat.le_refl _, r, ro⟩
theorem Grow.trans {ι ι1 ι2 : Inj} {M M1 M2 : Heap} {W : World} (h : Grow ι M ι1 M1 W) (k : Grow ι1 M1 ι2 M2 W) : Grow ι M ι2 M2 W :=
  ⟨h.le.trans k.le, h.sub.trans k.sub, Nat.le_trans h.next k.next, k.rel, k.ro⟩

/-- A block that is only read, seen anew. -/
theorem Grow.see {ι : Inj} {M : Heap} {W : World} (r : R ι M W) (ro : ReadOnly M) {c : List AV} {l : Loc} {o : Obj} (ho : W.heap[l.j]? = some o) (hb : BR ι (.cells c true true) l o) :
    Grow ι M (ι.set M.next l) (M.push (.cells c true true)) W := by
  have hnone := (r.fresh M.next (Nat.le_refl _)).2
  have hle := Inj.set_le hnone l
  refine ⟨hle, fun b x h => ?_, Nat.le_succ _, ⟨fun b x h => ?_, fun b b' x x' l1 l2 h1 h2 h3 h4 h5 h6 => ?_, fun b hb' => ?_⟩, fun b x h => ?_⟩
  · have : b ≠ M.next := fun e => by rw [e, (r.fresh _ (Nat.le_refl _)).1] at h; cases h
    simp [Heap.push, this, h]
  · simp only [Heap.push] at h
    split at h
    · rename_i e
      obtain rfl := Option.some.inj h
      subst e
      exact ⟨l, o, by simp [Inj.set], ho, hb.mono hle⟩
    · obtain ⟨l1, o1, g1, g2, g3⟩ := r.blk b x h
      exact ⟨l1, o1, hle _ _ g1, g2, g3.mono hle⟩
  · exfalso
    have one : ∀ b x, (M.push (.cells c true true)).get b = some x → x.own = false := fun b x h => by
      simp only [Heap.push] at h
      split at h
      · obtain rfl := Option.some.inj h
        rfl
      · exact ro b x h
    rcases h6 with h6 | h6
    · rw [one b x h1] at h6; cases h6
    · rw [one b' x' h2] at h6; cases h6
  · simp only [Heap.push] at hb' ⊢
    have : b ≠ M.next := by omega
    simp only [Inj.set, this, if_false]
    exact r.fresh b (by omega)
  · simp only [Heap.push] at h
    split at h
    · obtain rfl := Option.some.inj h
      rfl
    · exact ro b x h

/-- A number that stands for no block. -/
theorem Grow.skip {ι : Inj} {M : Heap} {W : World} (r : R ι M W) (ro : ReadOnly M) (l : Loc) :
    Grow ι M (ι.set M.next l) { M with next := M.next + 1 } W := by
  have hnone := (r.fresh M.next (Nat.le_refl _)).2
  have hle := Inj.set_le hnone l
  refine ⟨hle, fun b x h => h, Nat.le_succ _, ⟨fun b x h => ?_, fun b b' x x' l1 l2 h1 h2 h3 h4 h5 h6 => ?_, fun b hb' => ?_⟩, ro⟩
  · obtain ⟨l1, o1, g1, g2, g3⟩ := r.blk b x h
    exact ⟨l1, o1, hle _ _ g1, g2, g3.mono hle⟩
  · exfalso
    rcases h6 with h6 | h6
    · rw [ro b x h1] at h6; cases h6
    · rw [ro b' x' h2] at h6; cases h6
  · have : b ≠ M.next := by simp only at hb'; omega
    simp only [Inj.set, this, if_false]
    exact r.fresh b (by simp only at hb'; omega)

/-- What is opened: a row of cells, as data. -/
def Opens (W : World) (s : Sh) (cs : List Value) (d : D) : Prop :=
  ∀ ι M, R ι M W → ReadOnly M → ∃ ι' M' avs, Grow ι M ι' M' W ∧ VRL ι' avs cs ∧ (∀ a ∈ avs, a.isCell = true) ∧ Rd M' d avs ∧ D.is s d

def OpensAll (W : World) : List Sh → List (List Value) → List D → Prop
  | [], [], [] => True
  | s :: ss, c :: cs, d :: ds => Opens W s c d ∧ OpensAll W ss cs ds
  | _, _, _ => False

theorem OpensAll.open {W : World} : ∀ {ss : List Sh} {css : List (List Value)} {ds : List D}, OpensAll W ss css ds → ∀ ι M, R ι M W → ReadOnly M →
    ∃ ι' M' pieces, Grow ι M ι' M' W ∧ pieces.map List.length = css.map List.length ∧ VRL ι' pieces.flatten css.flatten ∧ (∀ p ∈ pieces, ∀ a ∈ p, a.isCell = true) ∧ Parts M' ds pieces ∧ D.are ss ds
  | [], [], [], _, ι, M, r, ro => ⟨ι, M, [], .refl r ro, rfl, by simp [VRL], by simp, by simp [Parts], by simp [D.are]⟩
  | s :: ss, c :: css, d :: ds, h, ι, M, r, ro => by
    simp only [OpensAll] at h
    obtain ⟨ι1, M1, avs, g1, v1, c1, r1, i1⟩ := h.1 ι M r ro
    obtain ⟨ι2, M2, ps, g2, l2, v2, c2, r2, i2⟩ := OpensAll.open h.2 ι1 M1 g1.rel g1.ro
    refine ⟨ι2, M2, avs :: ps, g1.trans g2, ?_, ?_, ?_, ?_, ?_⟩
    · have := v1.length
      simp [l2, this]
    · simp only [List.flatten_cons]
      exact (v1.mono g2.le).append v2
    · intro p hp
      rcases List.mem_cons.1 hp with rfl | hp
      · exact c1
      · exact c2 p hp
    · simp only [Parts]
      exact ⟨Rd.mono g2.sub _ _ r1, r2⟩
    · simp only [D.are]
      exact ⟨i1, i2⟩
  | [], [], _ :: _, h, _, _, _, _ => by simp [OpensAll] at h
  | [], _ :: _, _, h, _, _, _, _ => by simp [OpensAll] at h
  | _ :: _, [], _, h, _, _, _, _ => by simp [OpensAll] at h
  | _ :: _, _ :: _, [], h, _, _, _, _ => by simp [OpensAll] at h

theorem D.are_replicate {s : Sh} : ∀ {n : Nat} {l : List D}, D.are (List.replicate n s) l → l.length = n ∧ ∀ x ∈ l, D.is s x
  | 0, [], _ => by simp
  | 0, _ :: _, h => by simp [D.are] at h
  | n + 1, [], h => by simp [List.replicate_succ, D.are] at h
  | n + 1, d :: l, h => by
    simp only [List.replicate_succ, D.are] at h
    obtain ⟨h1, h2⟩ := D.are_replicate h.2
    refine ⟨by simp [h1], fun x hx => ?_⟩
    rcases List.mem_cons.1 hx with rfl | hx
    · exact h.1
    · exact h2 x hx

end Go.Proofs.Ytlcjmchhnbdepaa
end

section
/- The abstract machine, twenty-first part: every reading of the statement's form is opened. -/
set_option linter.unusedVariables false
set_option linter.unusedSimpArgs false
namespace Go.Proofs.Ytlcjmchhnbdepaa
open Go.ChangeShapes Go.WideShapes Go.ChangeAt Go.RowKit

def chunks {α : Type} : List Nat → List α → List (List α)
  | [], _ => []
  | n :: ns, l => l.take n :: chunks ns (l.drop n)

theorem chunks_length {α : Type} : ∀ (ns : List Nat) (l : List α), (chunks ns l).length = ns.length
  | [], _ => rfl
  | n :: ns, l => by simp [chunks, chunks_length ns]

theorem chunks_flatten {α : Type} : ∀ (ns : List Nat) (l : List α), (chunks ns l).flatten = l.take ns.sum
  | [], l => by simp [chunks]
  | n :: ns, l => by
    rw [chunks, List.flatten_cons, chunks_flatten ns, List.sum_cons, List.take_add]

theorem chunks_get {α : Type} : ∀ (ns : List Nat) (l : List α) (j n : Nat), ns[j]? = some n → (chunks ns l)[j]? = some ((l.drop (ns.take j).sum).take n)
  | [], _, _, _, h => by simp at h
  | m :: ns, l, 0, n, h => by
    simp at h
    subst h
    simp [chunks]
  | m :: ns, l, j + 1, n, h => by
    simp only [List.getElem?_cons_succ] at h
    simp only [chunks, List.getElem?_cons_succ]
    rw [chunks_get ns _ j n h]
    simp [List.drop_drop]

theorem OpensAll.of_get {W : World} : ∀ {ss : List Sh} {css : List (List Value)} {ds : List D}, ss.length = ds.length → css.length = ds.length →
    (∀ (i : Nat) s c d, ss[i]? = some s → css[i]? = some c → ds[i]? = some d → Opens W s c d) → OpensAll W ss css ds
  | [], [], [], _, _, _ => by simp [OpensAll]
  | s :: ss, c :: css, d :: ds, h1, h2, h => by
    simp only [OpensAll]
    exact ⟨h 0 s c d (by simp) (by simp) (by simp), OpensAll.of_get (by simpa using h1) (by simpa using h2) fun i s c d a1 a2 a3 => h (i + 1) s c d (by simpa using a1) (by simpa using a2) (by simpa using a3)⟩
  | [], _, _ :: _, h1, _, _ => by simp at h1
  | _ :: _, _, [], h1, _, _ => by simp at h1
  | _, [], _ :: _, _, h2, _ => by simp at h2
  | _, _ :: _, [], _, h2, _ => by simp at h2

theorem shOfs_get {P : Program} {k : Nat} : ∀ {ts : List TypeId} {ss : List Sh}, shOfs P k ts = some ss → ss.length = ts.length ∧ ∀ (i : Nat) t, ts[i]? = some t → ∃ s, ss[i]? = some s ∧ shOf P k t = some s
  | [], ss, h => by
    simp [shOfs, mapO] at h
    subst h
    simp
  | t :: ts, ss, h => by
    simp only [shOfs, mapO] at h
    split at h
    case h_2 => cases h
    rename_i s r h1 h2
    obtain rfl := Option.some.inj h
    obtain ⟨e1, e2⟩ := shOfs_get h2
    refine ⟨by simp [e1], fun i u hu => ?_⟩
    cases i with
    | zero =>
      simp at hu
      subst hu
      exact ⟨s, by simp, h1⟩
    | succ i => simpa using e2 i u (by simpa using hu)

theorem opens_one {W : World} {s : Sh} {v : Value} {a : AV} {d : D} (hv : ∀ ι, VR ι a v) (hc : a.isCell = true) (hr : ∀ M, Rd M d [a]) (hs : D.is s d) : Opens W s [v] d := fun ι M r ro =>
  ⟨ι, M, [a], .refl r ro, by simp only [VRL]; exact ⟨hv ι, trivial⟩, fun x hx => by simp at hx; subst hx; exact hc, hr M, hs⟩

theorem cell_here {W : World} {a : Addr} {v : Value} (h : W.cell? a = some v) : ∃ c e fz, W.heap[a.block]? = some (.cells c e fz) ∧ a.spot = none ∧ c[a.off]? = some v := by
  unfold World.cell? at h
  split at h
  · rename_i c e fz hc
    split at h
    · cases h
    · rename_i hs
      refine ⟨c, e, fz, hc, ?_, h⟩
      cases hsp : a.spot with
      | none => rfl
      | some _ => simp [hsp] at hs
  · cases h

theorem open_trod {H : Type} {enc : TypeId × Value → H} {P : Program} (hl : laidOutB P = true) {W : World} : ∀ (k : Nat) (t : TypeId) (s : Sh), shOf P k t = some s → t < P.types.size →
    ∀ (fuel : Nat) (cs : List Value) (x : DataW H × List MemPlace), DataW.trod enc P W 0 (fun _ => true) true fuel t cs = some x → Opens W s cs (toD x.1)
  | 0, _, _, hs, _, _, _, _, _ => by simp [shOf] at hs
  | k + 1, t, s, hs, ht, fuel, cs, x, h => by
    simp only [shOf] at hs
    split at hs
    case h_7 => cases hs
    · rename_i hu
      obtain rfl := Option.some.inj hs
      obtain ⟨b, rfl, rfl⟩ := DataW.trod_bool hu h
      exact opens_one (a := .bool b) (fun ι => by simp [VR]) rfl (fun M => by simp [toD, Rd]) ⟨b, rfl⟩
    · rename_i i hu
      obtain rfl := Option.some.inj hs
      obtain ⟨n, rfl, rfl, hw⟩ := DataW.trod_int hu h
      simp only [Lit.wf, Bool.and_eq_true, decide_eq_true_eq] at hw
      exact opens_one (a := .int i n) (fun ι => by simp [VR]) rfl (fun M => by simp [toD, Rd]) ⟨n, rfl, hw⟩
    · rename_i hu
      obtain rfl := Option.some.inj hs
      obtain ⟨b, rfl, rfl, hw⟩ := DataW.trod_string hu h
      exact opens_one (a := .str b.data.toList) (fun ι => by simp only [VR]; exact ⟨b, rfl, rfl⟩) rfl (fun M => by simp [toD, Rd]) ⟨_, rfl⟩
    · rename_i e hu
      split at hs
      · cases hs
      rename_i hsz
      obtain ⟨se, hse, rfl⟩ := Option.map_eq_some_iff.1 hs
      have hte : e < P.types.size := Go.kid_slice hl ht hu
      rcases DataW.trod_slice hu h with ⟨rfl, rfl⟩ | ⟨a, len, cap, elems, rest, n, rfl, rfl, rfl, _, hlc, _, hlen, hel, hre, _⟩
      · exact opens_one (a := .slice none 0 0 0 true) (fun ι => by simp [VR]) rfl (fun M => by simp [toD, Rd]) ⟨[], by simp [toD], by simp⟩
      · intro ι M r ro
        obtain ⟨hrl, hre⟩ := hre rfl
        simp only [toD]
        generalize hz : P.cellsOf e = sz at *
        rcases Nat.eq_zero_or_pos cap with hc0 | hcp
        · subst hc0
          obtain rfl : len = 0 := by omega
          have hel0 : elems = [] := by simpa using hlen
          subst hel0
          refine ⟨_, _, [.slice (some (M.next, 0)) sz 0 0 true], Grow.skip r ro ⟨a.block, 0, 0⟩, ?_, ?_, ?_, ?_⟩
          · simp only [VRL, VR, and_true]
            exact ⟨⟨a.block, 0, 0⟩, a, 0, by simp [Inj.set], rfl, .inl rfl, .inl rfl, .inl rfl, Nat.le_refl _, Nat.le_refl _, fun _ => rfl, by simp, by omega⟩
          · intro y hy
            simp at hy
            subst hy
            rfl
          · simp only [List.map_nil, toDs, Rd]
            exact .inr ⟨M.next, 0, sz, 0, by omega, by simp, by simp, by simp⟩
          · exact ⟨[], by simp [toDs], by simp⟩
        · -- every element's cells
          have all : ∀ i, i < cap → ∃ ci, W.cells? 0 (a.add (i * sz)) sz = some ci ∧ (i < len → ∃ y, elems[i]? = some y ∧ DataW.trod enc P W 0 (fun _ => true) true n e ci = some y) := by
            intro i hi
            by_cases hil : i < len
            · have h1 := hel i hil
              rw [List.getElem?_eq_getElem (by omega)] at h1
              obtain ⟨ci, h2, h3⟩ := Option.bind_eq_some_iff.1 h1
              exact ⟨ci, h2, fun _ => ⟨_, List.getElem?_eq_getElem (by omega), h3⟩⟩
            · have h1 := hre (i - len) (by omega)
              rw [List.getElem?_eq_getElem (by omega)] at h1
              obtain ⟨ci, h2, h3⟩ := Option.bind_eq_some_iff.1 h1
              rw [show len + (i - len) = i from by omega] at h2
              exact ⟨ci, h2, fun hx => absurd hx hil⟩
          obtain ⟨c0, hc0, _⟩ := all 0 hcp
          obtain ⟨_, hl0, hg0⟩ := World.cells?_some hc0
          have hone := hg0 0 (by omega)
          rw [List.getElem?_eq_getElem (by omega)] at hone
          obtain ⟨c, el, fz, hob, hsp, _⟩ := cell_here hone
          have ha0 : (a.add (0 * sz)).add 0 = a := by simp [Addr.add]
          rw [ha0] at hob hsp
          obtain ⟨j, off, spot⟩ := a
          simp only at hob hsp
          subst hsp
          have cellv : ∀ i v, W.cell? ⟨j, i, none⟩ = some v → c[i]? = some v := fun i v hv => by
            simpa [World.cell?, hob] using hv
          have celle : ∀ i, W.cell? ⟨j, i, none⟩ = c[i]? := fun i => by simp [World.cell?, hob]
          have rowi : ∀ i ci, W.cells? 0 ((⟨j, off, none⟩ : Addr).add (i * sz)) sz = some ci → ci = (c.toList.drop (off + i * sz)).take sz ∧ off + i * sz + sz ≤ c.size := by
            intro i ci hci
            obtain ⟨_, q1, q2⟩ := World.cells?_some hci
            have hsize : off + i * sz + sz ≤ c.size := by
              have := q2 (sz - 1) (by omega)
              rw [add_none, add_none, celle, List.getElem?_eq_getElem (by omega)] at this
              have := (Array.getElem?_eq_some_iff.1 this).1
              omega
            refine ⟨?_, hsize⟩
            apply List.ext_getElem?
            intro q
            by_cases hq : q < sz
            · have := q2 q hq
              rw [add_none, add_none, celle] at this
              rw [← this, List.getElem?_take, if_pos hq, List.getElem?_drop, Array.getElem?_toList]
            · rw [List.getElem?_eq_none (by omega), List.getElem?_eq_none (by simp; omega)]
          have hend : off + cap * sz ≤ c.size := by
            obtain ⟨ci, h1, _⟩ := all (cap - 1) (by omega)
            have := (rowi _ _ h1).2
            have : (cap - 1) * sz + sz = cap * sz := by rw [← Nat.succ_mul]; congr 1; omega
            omega
          have hrow : len * sz ≤ cap * sz := Nat.mul_le_mul_right _ hlc
          have hopens : OpensAll W (List.replicate len se) (chunks (List.replicate len sz) (c.toList.drop off)) (elems.map fun y => toD y.1) := by
            refine OpensAll.of_get (by simp [hlen]) (by simp [chunks_length, hlen]) fun i s0 ci d0 h1 h2 h3 => ?_
            have hi : i < len := by
              have := (List.getElem?_eq_some_iff.1 h1).1
              simpa using this
            rw [List.getElem?_replicate, if_pos hi] at h1
            obtain rfl := Option.some.inj h1
            rw [chunks_get _ _ i sz (by rw [List.getElem?_replicate, if_pos hi])] at h2
            obtain rfl := Option.some.inj h2
            obtain ⟨ci, g1, g2⟩ := all i (by omega)
            obtain ⟨y, g3, g4⟩ := g2 hi
            obtain ⟨g5, _⟩ := rowi i ci g1
            rw [List.getElem?_map, g3] at h3
            obtain rfl := Option.some.inj h3
            have e1 : (List.take i (List.replicate len sz)).sum = i * sz := by
              rw [List.take_replicate, Nat.min_eq_left (by omega), List.sum_replicate_nat]
            rw [e1, List.drop_drop, ← g5]
            exact open_trod hl k e se hse hte n ci y g4
          obtain ⟨ι1, M1, pieces, g1, hpl, hpv, hpc, hpp, hare⟩ := hopens.open ι M r ro
          have hflat : (chunks (List.replicate len sz) (c.toList.drop off)).flatten = (c.toList.drop off).take (len * sz) := by
            rw [chunks_flatten, List.sum_replicate_nat]
          rw [hflat] at hpv
          have hfl : pieces.flatten.length = len * sz := by
            have := hpv.length
            simp at this
            rw [List.length_flatten, this]
            omega
          have hseen := Grow.see (c := pieces.flatten) (l := ⟨j, off, cap * sz⟩) g1.rel g1.ro hob (by
            refine ⟨c, el, fz, rfl, hend, by rw [hfl]; exact hrow, (fun h => by cases h), fun i b hb => ?_, fun h => by cases h⟩
            obtain ⟨v, hv, hvr⟩ := hpv.get i b hb
            refine ⟨v, ?_, ?_, hvr⟩
            · rw [List.getElem?_take] at hv
              split at hv
              · rw [List.getElem?_drop, Array.getElem?_toList] at hv
                exact hv
              · cases hv
            · obtain ⟨p, hp, hbp⟩ := List.mem_flatten.1 (List.mem_of_getElem? hb)
              exact hpc p hp b hbp)
          have hdl : (toDs (elems.map fun y => y.1)).length = len := by rw [toDs_eq]; simp [hlen]
          refine ⟨_, _, [.slice (some (M1.next, 0)) sz len cap true], g1.trans hseen, ?_, ?_, ?_, ?_⟩
          · simp only [VRL, VR, and_true]
            exact ⟨⟨j, off, cap * sz⟩, ⟨j, off, none⟩, cap, by simp [Inj.set], rfl, .inr rfl, .inr rfl, .inr rfl, hlc, Nat.le_refl _, fun _ => rfl, by simp, by omega⟩
          · intro y hy
            simp at hy
            subst hy
            rfl
          · simp only [Rd]
            refine .inr ⟨M1.next, 0, sz, cap, by omega, by rw [hdl]; exact hlc, by rw [hdl], fun _ => ⟨pieces, ?_, ?_, ?_⟩⟩
            · rw [hdl]
              simp only [Heap.read, Heap.push, if_true]
              rw [if_pos (by omega), List.drop_zero, List.take_of_length_le (by omega)]
            · intro p hp
              have : p.length ∈ pieces.map List.length := List.mem_map_of_mem hp
              rw [hpl] at this
              obtain ⟨ci, hci, e1⟩ := List.mem_map.1 this
              obtain ⟨i, hi⟩ := List.mem_iff_getElem?.1 hci
              have hi2 : i < len := by
                have := (List.getElem?_eq_some_iff.1 hi).1
                rw [chunks_length] at this
                simpa using this
              rw [chunks_get _ _ i sz (by rw [List.getElem?_replicate, if_pos hi2])] at hi
              obtain rfl := Option.some.inj hi
              have e2 : (List.take i (List.replicate len sz)).sum = i * sz := by
                rw [List.take_replicate, Nat.min_eq_left (by omega), List.sum_replicate_nat]
              have e3 : i * sz + sz ≤ len * sz := by rw [← Nat.succ_mul]; exact Nat.mul_le_mul_right _ hi2
              rw [← e1, e2]
              simp
              omega
            · have e1 : toDs (elems.map fun y => y.1) = elems.map fun y => toD y.1 := by rw [toDs_eq]; simp
              rw [e1]
              exact Parts.mono hseen.sub _ _ hpp
          · have e1 : toDs (elems.map fun y => y.1) = elems.map fun y => toD y.1 := by rw [toDs_eq]; simp
            refine ⟨_, rfl, ?_⟩
            rw [e1]
            exact (D.are_replicate hare).2
    · rename_i fs hu
      obtain ⟨ss, hss, rfl⟩ := Option.map_eq_some_iff.1 hs
      obtain ⟨hsl, hsg⟩ := shOfs_get hss
      obtain ⟨kt, kc, ko⟩ := Go.kid_struct hl ht hu
      obtain ⟨xs, n, rfl, rfl, hcl, hxl, hget⟩ := DataW.trod_struct hu h
      intro ι M r ro
      have hopens : OpensAll W ss (chunks (fs.toList.map fun f => P.cellsOf f.type) cs) (xs.map fun y => toD y.1) := by
        refine OpensAll.of_get (by simp [hsl, hxl]) (by simp [chunks_length, hxl]) fun i s0 ci d0 h1 h2 h3 => ?_
        have hi : i < fs.toList.length := by
          have := (List.getElem?_eq_some_iff.1 h1).1
          simpa [hsl] using this
        have hf : fs.toList[i]? = some fs.toList[i] := List.getElem?_eq_getElem hi
        obtain ⟨s1, g1, g2⟩ := hsg i _ (by rw [List.getElem?_map, hf]; rfl)
        rw [h1] at g1
        obtain rfl := Option.some.inj g1
        rw [chunks_get _ _ i _ (by rw [List.getElem?_map, hf]; rfl)] at h2
        obtain rfl := Option.some.inj h2
        have h4 := hget i fs.toList[i] (by rw [← Array.getElem?_toList]; exact hf)
        rw [List.getElem?_map] at h3
        obtain ⟨y, hy, rfl⟩ := Option.map_eq_some_iff.1 h3
        rw [hy, ko i _ hf] at h4
        rw [← List.map_take]
        exact open_trod hl k _ _ g2 (kt _ (List.getElem_mem hi)) n _ y h4
      obtain ⟨ι1, M1, pieces, g1, hpl, hpv, hpc, hpp, hare⟩ := hopens.open ι M r ro
      rw [chunks_flatten, ← kc, ← hcl, List.take_length] at hpv
      have e1 : toD (DataW.agg (xs.map fun y => y.1)) = .agg (xs.map fun y => toD y.1) := by simp [toD, toDs_eq]
      refine ⟨ι1, M1, pieces.flatten, g1, hpv, fun a ha => ?_, ?_, ?_⟩
      · obtain ⟨p, hp, hap⟩ := List.mem_flatten.1 ha
        exact hpc p hp a hap
      · rw [e1]
        simp only [Rd]
        exact ⟨pieces, rfl, hpp⟩
      · rw [e1]
        exact ⟨_, rfl, hare⟩
    · rename_i m e hu
      obtain ⟨se, hse, rfl⟩ := Option.map_eq_some_iff.1 hs
      obtain ⟨hte, kc⟩ := Go.kid_array hl ht hu
      obtain ⟨xs, n, rfl, rfl, hcl, hxl, hget⟩ := DataW.trod_array hu h
      intro ι M r ro
      have hopens : OpensAll W (List.replicate m se) (chunks (List.replicate m (P.cellsOf e)) cs) (xs.map fun y => toD y.1) := by
        refine OpensAll.of_get (by simp [hxl]) (by simp [chunks_length, hxl]) fun i s0 ci d0 h1 h2 h3 => ?_
        have hi : i < m := by
          have := (List.getElem?_eq_some_iff.1 h1).1
          simpa using this
        rw [List.getElem?_replicate, if_pos hi] at h1
        obtain rfl := Option.some.inj h1
        rw [chunks_get _ _ i (P.cellsOf e) (by rw [List.getElem?_replicate, if_pos hi])] at h2
        obtain rfl := Option.some.inj h2
        have h4 := hget i hi
        rw [List.getElem?_map] at h3
        obtain ⟨y, hy, rfl⟩ := Option.map_eq_some_iff.1 h3
        rw [hy] at h4
        have e1 : (List.take i (List.replicate m (P.cellsOf e))).sum = i * P.cellsOf e := by
          rw [List.take_replicate, Nat.min_eq_left (by omega), List.sum_replicate_nat]
        rw [e1]
        exact open_trod hl k e se hse hte n _ y h4
      obtain ⟨ι1, M1, pieces, g1, hpl, hpv, hpc, hpp, hare⟩ := hopens.open ι M r ro
      rw [chunks_flatten, List.sum_replicate_nat, ← kc, ← hcl, List.take_length] at hpv
      have e1 : toD (DataW.agg (xs.map fun y => y.1)) = .agg (xs.map fun y => toD y.1) := by simp [toD, toDs_eq]
      refine ⟨ι1, M1, pieces.flatten, g1, hpv, fun a ha => ?_, ?_, ?_⟩
      · obtain ⟨p, hp, hap⟩ := List.mem_flatten.1 ha
        exact hpc p hp a hap
      · rw [e1]
        simp only [Rd]
        exact ⟨pieces, rfl, hpp⟩
      · rw [e1]
        exact ⟨_, rfl, hare⟩

end Go.Proofs.Ytlcjmchhnbdepaa
end

section
/- The abstract machine, twenty-second part: a law with parameters: what is to be shown of the machine alone. -/
set_option linter.unusedVariables false
set_option linter.unusedSimpArgs false
namespace Go.Proofs.Ytlcjmchhnbdepaa
open Go.ChangeShapes Go.WideShapes Go.ChangeAt Go.RowKit

/-- An argument: an aggregate is one value. -/
def RdArg (M : Heap) (a : AV) : D → Prop
  | .agg l => ∃ cs, a = .agg cs ∧ Rd M (.agg l) cs
  | d => Rd M d [a]

theorem RdArg.mono {M M' : Heap} (h : M.Sub M') {a : AV} {d : D} (r : RdArg M a d) : RdArg M' a d := by
  cases d with
  | agg l =>
    obtain ⟨cs, h1, h2⟩ := r
    exact ⟨cs, h1, h2.mono h⟩
  | _ => exact Rd.mono h _ _ r

def Args (M : Heap) : List AV → List D → Prop
  | [], [] => True
  | a :: as, d :: ds => RdArg M a d ∧ Args M as ds
  | _, _ => False

theorem Args.mono {M M' : Heap} (h : M.Sub M') : ∀ {as : List AV} {ds : List D}, Args M as ds → Args M' as ds
  | [], [], _ => by simp [Args]
  | _ :: _, _ :: _, e => by
    simp only [Args] at e ⊢
    exact ⟨e.1.mono h, e.2.mono h⟩
  | [], _ :: _, e => by simp [Args] at e
  | _ :: _, [], e => by simp [Args] at e

theorem open_arg {H : Type} {enc : TypeId × Value → H} {P : Program} (hl : laidOutB P = true) {W : World} {k base : Nat} {t : TypeId} {s : Sh} (hs : shOf P k t = some s) (ht : t < P.types.size) {v : Value} {d : DataW H} {ps : List MemPlace}
    (hval : Value.okWide P W .any base t v) (h : DataW.Trod enc P W 0 (fun _ => true) true t v d ps) {ι : Inj} {M : Heap} (r : R ι M W) (ro : ReadOnly M) :
    ∃ ι' M' a, Grow ι M ι' M' W ∧ VR ι' a v ∧ RdArg M' a (toD d) ∧ D.is s (toD d) := by
  obtain ⟨fuel, hf⟩ := h
  obtain ⟨ι', M', avs, g, hv, _, hr, hi⟩ := open_trod hl k t s hs ht fuel _ _ hf ι M r ro
  simp only at hr hi
  have one : v.cells = #[v] → (∀ l, toD d ≠ .agg l) → ∃ ι' M' a, Grow ι M ι' M' W ∧ VR ι' a v ∧ RdArg M' a (toD d) ∧ D.is s (toD d) := by
    intro e1 e2
    rw [e1] at hv
    match avs, hv, hr with
    | [a], hv, hr =>
      simp only [VRL] at hv
      refine ⟨ι', M', a, g, hv.1, ?_, hi⟩
      cases hd : toD d with
      | agg l => exact absurd hd (e2 l)
      | _ => rw [hd] at hr; exact hr
    | [], hv, _ => simp [VRL] at hv
    | _ :: _ :: _, hv, _ => simp [VRL] at hv
  have many : (∃ cs, v = .agg cs) → (∃ l, toD d = .agg l) → ∃ ι' M' a, Grow ι M ι' M' W ∧ VR ι' a v ∧ RdArg M' a (toD d) ∧ D.is s (toD d) := by
    rintro ⟨cs, rfl⟩ ⟨l, hd⟩
    refine ⟨ι', M', .agg avs, g, ?_, ?_, hi⟩
    · simp only [VR]
      exact ⟨cs, rfl, by simpa [Value.cells] using hv⟩
    · rw [hd] at hr ⊢
      exact ⟨avs, rfl, hr⟩
  cases k with
  | zero => simp [shOf] at hs
  | succ k =>
    simp only [shOf] at hs
    split at hs
    case h_7 => cases hs
    · rename_i hu
      obtain rfl := Option.some.inj hs
      obtain ⟨b, rfl⟩ := okWide_bool hu hval
      obtain ⟨x, hx⟩ := hi
      exact one rfl fun l hl => by rw [hx] at hl; cases hl
    · rename_i i hu
      obtain rfl := Option.some.inj hs
      obtain ⟨b, rfl⟩ := okWide_int hu hval
      obtain ⟨x, hx, _⟩ := hi
      exact one rfl fun l hl => by rw [hx] at hl; cases hl
    · rename_i hu
      obtain rfl := Option.some.inj hs
      obtain ⟨b, rfl⟩ := okWide_string hu hval
      obtain ⟨x, hx⟩ := hi
      exact one rfl fun l hl => by rw [hx] at hl; cases hl
    · rename_i e hu
      split at hs
      · cases hs
      obtain ⟨se, hse, rfl⟩ := Option.map_eq_some_iff.1 hs
      obtain ⟨a, len, cap, rfl⟩ := okWide_slice hu hval
      obtain ⟨x, hx, _⟩ := hi
      exact one rfl fun l hl => by rw [hx] at hl; cases hl
    · rename_i fs hu
      obtain ⟨ss, hss, rfl⟩ := Option.map_eq_some_iff.1 hs
      obtain ⟨cs, hcs, _⟩ := okWide_struct hu hval
      obtain ⟨x, hx, _⟩ := hi
      exact many ⟨cs, hcs⟩ ⟨x, hx⟩
    · rename_i n e hu
      obtain ⟨se, hse, rfl⟩ := Option.map_eq_some_iff.1 hs
      simp only [Value.okWide, hu] at hval
      obtain ⟨cs, hcs, _⟩ := hval
      obtain ⟨x, hx, _⟩ := hi
      exact many ⟨cs, hcs⟩ ⟨x, hx⟩

theorem open_all {H : Type} {enc : TypeId × Value → H} {P : Program} (hl : laidOutB P = true) {W : World} {k base : Nat} :
    ∀ (ts : List TypeId) (ss : List Sh) (vs : List Value) (ds : List (DataW H)) (p : List MemPlace), shOfs P k ts = some ss → (ts.all fun t => decide (t < P.types.size)) = true →
      (∀ (j : Nat) t v, ts[j]? = some t → vs[j]? = some v → Value.okWide P W .any base t v) → DataW.TrodAll enc P W 0 (fun _ => true) true ts vs ds p →
      ∀ ι M, R ι M W → ReadOnly M → ∃ ι' M' as, Grow ι M ι' M' W ∧ VRL ι' as vs ∧ Args M' as (ds.map toD) ∧ D.are ss (ds.map toD)
  | [], ss, [], [], p, hs, _, _, _, ι, M, r, ro => by
    simp [shOfs, mapO] at hs
    subst hs
    exact ⟨ι, M, [], .refl r ro, by simp [VRL], by simp [Args], by simp [D.are]⟩
  | t :: ts, ss, v :: vs, d :: ds, p, hs, ht, hval, h, ι, M, r, ro => by
    simp only [shOfs, mapO] at hs
    split at hs
    case h_2 => cases hs
    rename_i s sr h1 h2
    obtain rfl := Option.some.inj hs
    simp only [List.all_cons, Bool.and_eq_true, decide_eq_true_eq] at ht
    simp only [DataW.TrodAll] at h
    obtain ⟨p1, p2, g1, g2, _⟩ := h
    obtain ⟨ι1, M1, a, q1, q2, q3, q4⟩ := open_arg hl h1 ht.1 (hval 0 t v (by simp) (by simp)) g1 r ro
    obtain ⟨ι2, M2, as, w1, w2, w3, w4⟩ := open_all hl ts sr vs ds p2 h2 (by simpa using ht.2) (fun j t v a b => hval (j + 1) t v (by simpa using a) (by simpa using b)) g2 ι1 M1 q1.rel q1.ro
    refine ⟨ι2, M2, a :: as, q1.trans w1, ?_, ?_, ?_⟩
    · simp only [VRL]
      exact ⟨q2.mono w1.le, w2⟩
    · simp only [List.map_cons, Args]
      exact ⟨q3.mono w1.sub, w3⟩
    · simp only [List.map_cons, D.are]
      exact ⟨q4, w4⟩
  | [], _, _ :: _, _, _, _, _, _, h, _, _, _, _ => by simp [DataW.TrodAll] at h
  | [], _, [], _ :: _, _, _, _, _, h, _, _, _, _ => by simp [DataW.TrodAll] at h
  | _ :: _, _, [], _, _, _, _, _, h, _, _, _, _ => by simp [DataW.TrodAll] at h
  | _ :: _, _, _ :: _, [], _, _, _, _, h, _, _, _, _ => by simp [DataW.TrodAll] at h

mutual
def D.bulk : D → Nat
  | .str s => s.length + 1
  | .list l => D.bulks l + 1
  | .agg l => D.bulks l + 1
  | .other => 0
  | _ => 1
def D.bulks : List D → Nat
  | [] => 0
  | d :: r => D.bulk d + D.bulks r
end

/-- Beyond the last number there is no block. -/
def Heap.Wf (M : Heap) : Prop := ∀ b, M.next ≤ b → M.get b = none

/-- What is to be shown of the machine: over whatever is read, of this bulk, it tells true. -/
def PureLaw (g : List AV → Heap → Option (AV × Heap)) (ss : List Sh) (small : Nat) : Prop :=
  ∀ (ds : List D) (as : List AV) (M : Heap), D.are ss ds → D.bulks ds ≤ small → ReadOnly M → M.Wf → Args M as ds → tellsTrue (g as M) = true

theorem open_calls {H : Type} {enc : TypeId × Value → H} {P : Program} (hl : laidOutB P = true) {f : FuncId} {g : List AV → Heap → Option (AV × Heap)} (hg : Sound P f g) {ss : List Sh} {small : Nat} (hp : PureLaw g ss small)
    {W : World} {k base : Nat} {ts : List TypeId} {args : Array Value} {ds : List (DataW H)} {p : List MemPlace} (hs : shOfs P k ts = some ss) (ht : (ts.all fun t => decide (t < P.types.size)) = true)
    (hval : ∀ (j : Nat) t v, ts[j]? = some t → args.toList[j]? = some v → Value.okWide P W .any base t v) (hA : DataW.TrodAll enc P W 0 (fun _ => true) true ts args.toList ds p) (hb : D.bulks (ds.map toD) ≤ small) :
    Calls P f args W fun e W' => e = .returned (.bool true) ∧ Below W.heap.size W W' := by
  obtain ⟨ι, M, as, g1, g2, g3, g4⟩ := open_all hl ts ss args.toList ds p hs ht hval hA _ _ (R.empty W) (fun b x h => by simp [Heap.empty] at h)
  obtain ⟨M', hM⟩ := tellsTrue_iff (hp _ as M g4 hb g1.ro (fun b hb => (g1.rel.fresh b hb).1) g3)
  refine (hg as M _ M' hM ι W args g1.rel g2).mono ?_
  rintro e w' ⟨ι', v', rfl, hv, htr⟩
  simp only [VR] at hv
  subst hv
  exact ⟨rfl, below_of_tr htr g1.ro⟩

end Go.Proofs.Ytlcjmchhnbdepaa
end

section
/- The abstract machine, twenty-third part: the same machine with an environment that the kernel takes cheaply: the last written first. What it comes to, the machine comes to. -/
set_option linter.unusedVariables false
set_option linter.unusedSimpArgs false
namespace Go.Proofs.Ytlcjmchhnbdepaa

abbrev Fast := List (Nat × AV)

def look : Fast → Nat → AV
  | [], _ => .undef
  | p :: r, t => match Nat.beq p.1 t with
    | true => p.2
    | false => look r t

def AX.sub (ρ : Nat → AV) : AX → AX
  | .t n => .c (ρ n)
  | .c v => .c v

def AX.subO (ρ : Nat → AV) (x : Option AX) : Option AX := x.map (AX.sub ρ)

def POp.sub (ρ : Nat → AV) : POp → POp
  | .move x => .move (x.sub ρ)
  | .pick c a b => .pick (c.sub ρ) (a.sub ρ) (b.sub ρ)
  | .build z ps => .build z (ps.map fun p => (p.1, p.2.1, p.2.2.sub ρ))
  | .nilCheck x => .nilCheck (x.sub ρ)
  | .bin op x y => .bin op (x.sub ρ) (y.sub ρ)
  | .eqB n x y => .eqB n (x.sub ρ) (y.sub ρ)
  | .eqS n ks x y => .eqS n ks (x.sub ρ) (y.sub ρ)
  | .eqP n x y => .eqP n (x.sub ρ) (y.sub ρ)
  | .eqN n x y => .eqN n (x.sub ρ) (y.sub ρ)
  | .un op x => .un op (x.sub ρ)
  | .cvInt k x => .cvInt k (x.sub ρ)
  | .cvStr x => .cvStr (x.sub ρ)
  | .mkFunc f cs => .mkFunc f (cs.map (AX.sub ρ))
  | .sliceStr x a b => .sliceStr (x.sub ρ) (AX.subO ρ a) (AX.subO ρ b)
  | .slice s x a b c => .slice s (x.sub ρ) (AX.subO ρ a) (AX.subO ρ b) (AX.subO ρ c)
  | .fieldAddr o x => .fieldAddr o (x.sub ρ)
  | .field g o n x => .field g o n (x.sub ρ)
  | .idxArr n s x i => .idxArr n s (x.sub ρ) (i.sub ρ)
  | .idxSlice s x i => .idxSlice s (x.sub ρ) (i.sub ρ)
  | .index g n s x i => .index g n s (x.sub ρ) (i.sub ρ)
  | .indexStr x i => .indexStr (x.sub ρ) (i.sub ρ)
  | .extract x i => .extract (x.sub ρ) i
  | .len s x => .len s (x.sub ρ)
  | .cap x => .cap (x.sub ρ)
  | .minmax m xs => .minmax m (xs.map (AX.sub ρ))

def LOp.sub (ρ : Nat → AV) : LOp → LOp
  | .load g n x => .load g n (x.sub ρ)
  | .bytesStr x => .bytesStr (x.sub ρ)
  | .mapLen x => .mapLen (x.sub ρ)
  | .lookup kd ok z x k => .lookup kd ok z (x.sub ρ) (k.sub ρ)

def KOp.sub (ρ : Nat → AV) : KOp → KOp
  | .alloc z => .alloc z
  | .box x => .box (x.sub ρ)
  | .buildSlice s l z ps => .buildSlice s l z (ps.map fun p => (p.1, p.2.sub ρ))
  | .makeSlice s b z l c => .makeSlice s b z (l.sub ρ) (c.sub ρ)
  | .strBytes x => .strBytes (x.sub ρ)
  | .makeMap => .makeMap

def NOp.sub (ρ : Nat → AV) : NOp → NOp
  | .store n a v => .store n (a.sub ρ) (v.sub ρ)
  | .call f xs => .call (f.sub ρ) (xs.map (AX.sub ρ))
  | .append s b x y => .append s b (x.sub ρ) (y.sub ρ)
  | .appendZ s b z x y => .appendZ s b z (x.sub ρ) (y.sub ρ)
  | .copy s x y => .copy s (x.sub ρ) (y.sub ρ)
  | .clear s z x => .clear s z (x.sub ρ)
  | .mapUpdate kd m k v => .mapUpdate kd (m.sub ρ) (k.sub ρ) (v.sub ρ)
  | .mapDelete kd m k => .mapDelete kd (m.sub ρ) (k.sub ρ)
  | .cvBytes x => .cvBytes (x.sub ρ)
  | .fail => .fail

def AOp.sub (ρ : Nat → AV) : AOp → AOp
  | .p o => .p (o.sub ρ)
  | .l o => .l (o.sub ρ)
  | .k o => .k (o.sub ρ)
  | .n o => .n (o.sub ρ)

section
variable {ρ : Nat → AV} {e : Env} (h : ∀ t, ρ t = e.getD t .undef)
include h

theorem ev_sub (x : AX) : (x.sub ρ).ev [] = x.ev e := by
  cases x with
  | t n => exact h n
  | c v => rfl

theorem evs_sub (l : List AX) : (l.map (AX.sub ρ)).map (AX.ev []) = l.map (AX.ev e) := by
  rw [List.map_map]
  exact List.map_congr_left fun x _ => ev_sub h x

theorem boundO_sub (x : Option AX) (a b : Nat) : aBoundO [] (AX.subO ρ x) a b = aBoundO e x a b := by
  cases x with
  | none => rfl
  | some x => simp only [AX.subO, Option.map_some, aBoundO, ev_sub h]

theorem aP_sub (o : POp) : aP (o.sub ρ) [] = aP o e := by
  cases o with
  | build z ps =>
    simp only [POp.sub, aP, List.map_map]
    congr 2
    exact List.map_congr_left fun p _ => by simp only [Function.comp, ev_sub h]
  | mkFunc f cs => simp only [POp.sub, aP, evs_sub h]
  | minmax m xs => simp only [POp.sub, aP, evs_sub h]
  | sliceStr x a b => simp only [POp.sub, aP, ev_sub h, aSliceStr, boundO_sub h]
  | slice s x a b c =>
    simp only [POp.sub, aP, ev_sub h]
    split
    · simp only [aSlice, boundO_sub h]
      cases c with
      | none => rfl
      | some c => cases b with
        | none => rfl
        | some b => rfl
    · rfl
  | _ => simp only [POp.sub, aP, ev_sub h]

theorem aL_sub' (o : LOp) (M : Heap) : aL (o.sub ρ) [] M = aL o e M := by
  cases o <;> simp only [LOp.sub, aL, ev_sub h]

theorem aK_sub (o : KOp) : aK (o.sub ρ) [] = aK o e := by
  cases o with
  | buildSlice s l z ps =>
    simp only [KOp.sub, aK, List.map_map]
    congr 2
    exact List.map_congr_left fun p _ => by simp only [Function.comp, ev_sub h]
  | _ => simp only [KOp.sub, aK, ev_sub h]

theorem aN_sub (C : ACalls) (o : NOp) (M : Heap) : aN C (o.sub ρ) [] M = aN C o e M := by
  cases o with
  | call f xs => simp only [NOp.sub, aN, ev_sub h, evs_sub h]
  | _ => simp only [NOp.sub, aN, ev_sub h]

theorem aop_sub (C : ACalls) (o : AOp) (M : Heap) : aop C (o.sub ρ) [] M = aop C o e M := by
  cases o with
  | p o => simp only [AOp.sub, aop, aP_sub h]
  | l o => simp only [AOp.sub, aop, aL_sub' h]
  | k o => simp only [AOp.sub, aop, aK_sub h]
  | n o => simp only [AOp.sub, aop, aN_sub h]
end

def ACalls.Le (C C' : ACalls) : Prop := ∀ f a M r, C f a M = some r → C' f a M = some r

theorem aN_le {C C' : ACalls} (h : C.Le C') {o : NOp} {e : Env} {M : Heap} {r : AV × Heap} (hr : aN C o e M = some r) : aN C' o e M = some r := by
  cases o with
  | call f xs =>
    simp only [aN, aCall] at hr ⊢
    split at hr
    · exact h _ _ _ _ hr
    · cases hr
  | _ => exact hr

theorem aop_le {C C' : ACalls} (h : C.Le C') {o : AOp} {e : Env} {M : Heap} {r : AV × Heap} (hr : aop C o e M = some r) : aop C' o e M = some r := by
  cases o with
  | n o => exact aN_le h hr
  | _ => exact hr

/-- A value, brought to its form first. -/
def AV.force {β : Type} (v : AV) (k : AV → β) : β :=
  match v with
  | .int kd (.ofNat m) => match m with
    | 0 => k (.int kd (.ofNat 0))
    | m + 1 => k (.int kd (.ofNat (m + 1)))
  | .bool true => k (.bool true)
  | .bool false => k (.bool false)
  | v => k v

theorem force_eq {β : Type} (v : AV) (k : AV → β) : v.force k = k v := by
  unfold AV.force
  split
  · split <;> rfl
  · rfl
  · rfl
  · rfl

def bput (n : Nat) (d : Option Nat) (v : AV) (l : Fast) : Fast :=
  match d with
  | some d => match Nat.blt d n with
    | true => (d, v) :: l
    | false => l
  | none => l

def bwanted (g : Option (Nat × Bool)) (l : Fast) : Option Bool :=
  match g with
  | none => some true
  | some (t, want) => match look l t with
    | .bool b => some (b == want)
    | .tuple _ => some false
    | _ => none

def bops (C : ACalls) (n : Nat) : List AOper → Fast → Heap → Option (Fast × Heap)
  | [], l, M => some (l, M)
  | o :: r, l, M => match bwanted o.guard l with
    | some true => match aop C (o.op.sub (look l)) [] M with
      | some p => p.1.force fun v => bops C n r (bput n o.dst v l) p.2
      | none => none
    | some false => bops C n r (bput n o.dst (.tuple []) l) M
    | none => none

def bdops (C : ACalls) (n base nk : Nat) : List DOper → Fast → Heap → List Heap → Option (Fast × Heap)
  | [], l, M, _ => some (l, M)
  | d :: r, l, M, hist => match bwanted d.o.guard l with
    | some true => match d.o.op with
      | .p o => match aP (o.sub (look l)) [] with
        | some v => v.force fun v => bdops C n base nk r (bput n d.o.dst v l) M hist
        | none => none
      | .l o => match aL (o.sub (look l)) [] (M.hide base nk) with
        | some v => if (hist.drop d.lo).all (fun H => match aL (o.sub (look l)) [] (H.hide base nk) with | some u => AV.same u v | none => false) then v.force fun v => bdops C n base nk r (bput n d.o.dst v l) M hist else none
        | none => none
      | .k o => match aK (o.sub (look l)) [] with
        | some p => bdops C n base nk r (bput n d.o.dst (p.2.val (base + d.ix)) l) (M.put (base + d.ix) (some p.1)) hist
        | none => none
      | .n o => match aN C (o.sub (look l)) [] M with
        | some p => p.1.force fun v => bdops C n base nk r (bput n d.o.dst v l) p.2 (hist ++ [M])
        | none => none
    | some false => bdops C n base nk r (bput n d.o.dst (.tuple []) l) M (match d.o.op with | .n _ => hist ++ [M] | _ => hist)
    | none => none

def bkeep (l : Fast) : List Nat → Fast
  | [] => []
  | t :: r => (t, look l t) :: bkeep l r

abbrev BOut := Option (Ex × Fast × Heap)

def bloop (body : Fast → Heap → BOut) (keep : List Nat) : Nat → Fast → Heap → BOut
  | 0, _, _ => none
  | k + 1, l, M => match body (bkeep l keep) M with
    | some (.normal, l', M') => bloop body keep k l' M'
    | r => r

def bexec (C : ACalls) (K n : Nat) : ACode → Fast → Heap → BOut
  | .skip, l, M => some (.normal, l, M)
  | .reg ops, l, M => (bops C n ops l M).map fun p => (.normal, p)
  | .dreg nk ops, l, M => (bdops C n M.next nk ops l { M with next := M.next + nk } []).map fun p => (.normal, p)
  | .seq a b, l, M => match bexec C K n a l M with
    | some (.normal, l', M') => bexec C K n b l' M'
    | r => r
  | .cond c a b, l, M => match (c.sub (look l)).ev [] with
    | .bool true => bexec C K n a l M
    | .bool false => bexec C K n b l M
    | _ => none
  | .block id c, l, M => match bexec C K n c l M with
    | some (.exit i, l', M') => if i = id then some (.normal, l', M') else some (.exit i, l', M')
    | r => r
  | .loop keep c, l, M => bloop (bexec C K n c) keep K l M
  | .exit id, l, M => some (.exit id, l, M)
  | .ret, l, M => some (.ret, l, M)
  | .fail, _, _ => none

def bRes (r : ARes) (l : Fast) (M : Heap) : Option AV :=
  match r with
  | .tmp t => match look l t with
    | .undef => none
    | v => some v
  | .cell t agg n => aLoad agg n (look l t) M

def bResL : List ARes → Fast → Heap → Option (List AV)
  | [], _, _ => some []
  | r :: rs, l, M => (bRes r l M).bind fun v => (bResL rs l M).map (v :: ·)

def bResults (rs : List ARes) (l : Fast) (M : Heap) : Option AV :=
  (bResL rs l M).map fun vs => match vs with
    | [v] => v
    | vs => .tuple vs

def start : Nat → List AV → Fast
  | _, [] => []
  | i, v :: r => (i, v) :: start (i + 1) r

def bbody (C : ACalls) (K : Nat) (f : AFunc) (args : List AV) (M : Heap) : Option (AV × Heap) :=
  if args.length = f.nargs ∧ f.nargs ≤ f.ntmps then
    match bexec C K f.ntmps f.code (start 0 (args ++ List.replicate (f.ntmps - f.nargs) (.tuple []))) M with
    | some (.normal, l, M') => (bResults f.results l M').map fun v => (v, M')
    | some (.ret, l, M') => (bResults f.results l M').map fun v => (v, M')
    | _ => none
  else none

abbrev Sums := FuncId → Option (List AV → Heap → Option (AV × Heap))

def bcall (G : Sums) (T : FuncId → Option AFunc) (K : Nat) : Nat → ACalls
  | 0, _, _, _ => none
  | d + 1, f, args, M => match G f with
    | some g => g args M
    | none => match T f with
      | some af => bbody (bcall G T K d) K af args M
      | none => none

/-! ### It is the same machine -/

structure Same (n : Nat) (l : Fast) (e : Env) : Prop where
  len : e.length = n
  get : ∀ t, look l t = e.getD t .undef

theorem Same.put {n : Nat} {l : Fast} {e : Env} (s : Same n l e) (d : Option Nat) (v : AV) : Same n (bput n d v l) (aput d v e) := by
  cases d with
  | none => exact s
  | some d =>
    simp only [bput, aput]
    cases hb : Nat.blt d n with
    | false =>
      have hd : e.length ≤ d := by
        rw [s.len]
        refine Nat.le_of_not_lt fun hlt => ?_
        have : Nat.blt d n = true := by simpa [Nat.blt_eq] using hlt
        rw [hb] at this
        cases this
      rw [List.set_eq_of_length_le hd]
      exact s
    | true =>
      have hd : d < n := by simpa [Nat.blt_eq] using hb
      refine ⟨by simp [s.len], fun t => ?_⟩
      simp only [look]
      rw [List.getD_eq_getElem?_getD, List.getElem?_set]
      by_cases h : d = t
      · subst h
        simp [s.len, hd]
      · have : Nat.beq d t = false := by
          cases hh : Nat.beq d t with
          | false => rfl
          | true => exact absurd (Nat.eq_of_beq_eq_true hh) h
        simp only [this, if_neg h]
        rw [s.get t, List.getD_eq_getElem?_getD]

theorem Same.wanted {n : Nat} {l : Fast} {e : Env} (s : Same n l e) (g : Option (Nat × Bool)) : bwanted g l = awanted g e := by
  cases g with
  | none => rfl
  | some g =>
    obtain ⟨t, want⟩ := g
    simp only [bwanted, awanted, s.get]
    generalize e.getD t .undef = x
    cases x <;> rfl

theorem bops_ok {C C' : ACalls} (hC : C.Le C') {n : Nat} : ∀ (ops : List AOper) (l : Fast) (e : Env) (M : Heap) (l' : Fast) (M' : Heap), Same n l e → bops C n ops l M = some (l', M') → ∃ e', aops C' ops e M = some (e', M') ∧ Same n l' e'
  | [], l, e, M, l', M', s, h => by
    simp only [bops, Option.some.injEq, Prod.mk.injEq] at h
    obtain ⟨rfl, rfl⟩ := h
    exact ⟨e, rfl, s⟩
  | o :: r, l, e, M, l', M', s, h => by
    simp only [bops] at h
    rw [s.wanted] at h
    simp only [aops]
    split at h
    · rename_i hw
      rw [hw]
      rw [aop_sub s.get] at h
      split at h
      · rename_i p hp
        rw [force_eq] at h
        simp only [aop_le hC hp, Option.bind_some]
        exact bops_ok hC r _ _ _ _ _ (s.put _ _) h
      · cases h
    · rename_i hw
      rw [hw]
      exact bops_ok hC r _ _ _ _ _ (s.put _ _) h
    · cases h

theorem bdops_ok {C C' : ACalls} (hC : C.Le C') {n base nk : Nat} : ∀ (ops : List DOper) (l : Fast) (e : Env) (M : Heap) (hist : List Heap) (l' : Fast) (M' : Heap), Same n l e → bdops C n base nk ops l M hist = some (l', M') → ∃ e', adops C' base nk ops e M hist = some (e', M') ∧ Same n l' e'
  | [], l, e, M, hist, l', M', s, h => by
    simp only [bdops, Option.some.injEq, Prod.mk.injEq] at h
    obtain ⟨rfl, rfl⟩ := h
    exact ⟨e, rfl, s⟩
  | d :: r, l, e, M, hist, l', M', s, h => by
    simp only [bdops] at h
    rw [s.wanted] at h
    simp only [adops]
    split at h
    · rename_i hw
      rw [hw]
      simp only
      split at h
      · rename_i o ho
        rw [aP_sub s.get] at h
        split at h
        · rename_i v hv
          rw [force_eq] at h
          simp only [ho, hv, Option.bind_some]
          exact bdops_ok hC r _ _ _ _ _ _ (s.put _ _) h
        · cases h
      · rename_i o ho
        simp only [aL_sub' s.get] at h
        split at h
        · rename_i v hv
          simp only [ho, hv, Option.bind_some]
          split at h
          · rename_i hall
            rw [force_eq] at h
            split
            · exact bdops_ok hC r _ _ _ _ _ _ (s.put _ _) h
            · rename_i hn
              exact absurd hall hn
          · cases h
        · cases h
      · rename_i o ho
        rw [aK_sub s.get] at h
        split at h
        · rename_i p hp
          simp only [ho, hp, Option.bind_some]
          exact bdops_ok hC r _ _ _ _ _ _ (s.put _ _) h
        · cases h
      · rename_i o ho
        rw [aN_sub s.get] at h
        split at h
        · rename_i p hp
          rw [force_eq] at h
          simp only [ho, aN_le hC hp, Option.bind_some]
          exact bdops_ok hC r _ _ _ _ _ _ (s.put _ _) h
        · cases h
    · rename_i hw
      rw [hw]
      exact bdops_ok hC r _ _ _ _ _ _ (s.put _ _) h
    · cases h

theorem look_keep (l : Fast) (t : Nat) : ∀ keep : List Nat, look (bkeep l keep) t = if keep.contains t then look l t else .undef
  | [] => by simp [bkeep, look]
  | u :: r => by
    simp only [bkeep, look, List.contains_cons]
    cases hb : Nat.beq u t with
    | true =>
      obtain rfl := Nat.eq_of_beq_eq_true hb
      simp
    | false =>
      have : (t == u) = false := by
        cases h : t == u with
        | false => rfl
        | true =>
          rw [beq_iff_eq] at h
          subst h
          rw [Nat.beq_refl] at hb
          cases hb
      simp only [this, Bool.false_or]
      exact look_keep l t r

theorem keepOnly_getD (keep : List Nat) : ∀ (e : Env) (i t : Nat), (keepOnly keep i e).getD t .undef = if keep.contains (i + t) then e.getD t .undef else .undef
  | [], i, t => by simp [keepOnly]
  | v :: r, i, 0 => by simp [keepOnly]
  | v :: r, i, t + 1 => by
    have := keepOnly_getD keep r (i + 1) t
    simp only [keepOnly, List.getD_cons_succ]
    rw [this, show i + 1 + t = i + (t + 1) from by omega]

theorem keepOnly_length (keep : List Nat) : ∀ (e : Env) (i : Nat), (keepOnly keep i e).length = e.length
  | [], i => rfl
  | v :: r, i => by simp [keepOnly, keepOnly_length keep r]

theorem Same.keep {n : Nat} {l : Fast} {e : Env} (s : Same n l e) (keep : List Nat) : Same n (bkeep l keep) (keepOnly keep 0 e) :=
  ⟨by rw [keepOnly_length, s.len], fun t => by rw [look_keep, keepOnly_getD, Nat.zero_add, s.get]⟩

theorem bloop_ok {n : Nat} {b : Fast → Heap → BOut} {a : Env → Heap → AOut} (h : ∀ l e M x l' M', Same n l e → b l M = some (x, l', M') → ∃ e', a e M = some (x, e', M') ∧ Same n l' e') (keep : List Nat) :
    ∀ (k : Nat) (l : Fast) (e : Env) (M : Heap) (x : Ex) (l' : Fast) (M' : Heap), Same n l e → bloop b keep k l M = some (x, l', M') → ∃ e', aloop a keep k e M = some (x, e', M') ∧ Same n l' e'
  | 0, _, _, _, _, _, _, _, hb => by simp [bloop] at hb
  | k + 1, l, e, M, x, l', M', s, hb => by
    simp only [bloop] at hb
    simp only [aloop]
    split at hb
    · rename_i l1 M1 h1
      obtain ⟨e1, g1, g2⟩ := h _ _ _ _ _ _ (s.keep keep) h1
      rw [g1]
      exact bloop_ok h keep k _ _ _ _ _ _ g2 hb
    · rename_i hne
      obtain ⟨e1, g1, g2⟩ := h _ _ _ _ _ _ (s.keep keep) hb
      rw [g1]
      refine ⟨e1, ?_, g2⟩
      cases x with
      | normal => exact absurd hb (hne _ _)
      | _ => rfl

theorem bexec_ok {C C' : ACalls} (hC : C.Le C') {K n : Nat} : ∀ (c : ACode) (l : Fast) (e : Env) (M : Heap) (x : Ex) (l' : Fast) (M' : Heap), Same n l e → bexec C K n c l M = some (x, l', M') → ∃ e', aexec C' K c e M = some (x, e', M') ∧ Same n l' e'
  | .skip, l, e, M, x, l', M', s, h => by
    simp only [bexec, Option.some.injEq, Prod.mk.injEq] at h
    obtain ⟨rfl, rfl, rfl⟩ := h
    exact ⟨e, rfl, s⟩
  | .reg ops, l, e, M, x, l', M', s, h => by
    simp only [bexec] at h
    obtain ⟨p, hp, h2⟩ := Option.map_eq_some_iff.1 h
    simp only [Prod.mk.injEq] at h2
    obtain ⟨rfl, h3⟩ := h2
    subst h3
    obtain ⟨e', g1, g2⟩ := bops_ok hC ops _ _ _ _ _ s hp
    exact ⟨e', by simp only [aexec, g1, Option.map_some], g2⟩
  | .dreg nk ops, l, e, M, x, l', M', s, h => by
    simp only [bexec] at h
    obtain ⟨p, hp, h2⟩ := Option.map_eq_some_iff.1 h
    simp only [Prod.mk.injEq] at h2
    obtain ⟨rfl, h3⟩ := h2
    subst h3
    obtain ⟨e', g1, g2⟩ := bdops_ok hC ops _ _ _ _ _ _ s hp
    exact ⟨e', by simp only [aexec, g1, Option.map_some], g2⟩
  | .seq a b, l, e, M, x, l', M', s, h => by
    simp only [bexec] at h
    simp only [aexec]
    split at h
    · rename_i l1 M1 h1
      obtain ⟨e1, g1, g2⟩ := bexec_ok hC a _ _ _ _ _ _ s h1
      rw [g1]
      exact bexec_ok hC b _ _ _ _ _ _ g2 h
    · rename_i hne
      obtain ⟨e1, g1, g2⟩ := bexec_ok hC a _ _ _ _ _ _ s h
      rw [g1]
      refine ⟨e1, ?_, g2⟩
      cases x with
      | normal => exact absurd h (hne _ _)
      | _ => rfl
  | .cond c a b, l, e, M, x, l', M', s, h => by
    simp only [bexec] at h
    rw [ev_sub s.get] at h
    simp only [aexec]
    split at h
    · rename_i hc
      rw [hc]
      exact bexec_ok hC a _ _ _ _ _ _ s h
    · rename_i hc
      rw [hc]
      exact bexec_ok hC b _ _ _ _ _ _ s h
    · cases h
  | .block id c, l, e, M, x, l', M', s, h => by
    simp only [bexec] at h
    simp only [aexec]
    split at h
    · rename_i i l1 M1 h1
      obtain ⟨e1, g1, g2⟩ := bexec_ok hC c _ _ _ _ _ _ s h1
      rw [g1]
      simp only
      split at h
      · rename_i hi
        rw [if_pos hi]
        simp only [Option.some.injEq, Prod.mk.injEq] at h
        obtain ⟨rfl, rfl, rfl⟩ := h
        exact ⟨e1, rfl, g2⟩
      · rename_i hi
        rw [if_neg hi]
        simp only [Option.some.injEq, Prod.mk.injEq] at h
        obtain ⟨rfl, rfl, rfl⟩ := h
        exact ⟨e1, rfl, g2⟩
    · rename_i hne
      obtain ⟨e1, g1, g2⟩ := bexec_ok hC c _ _ _ _ _ _ s h
      rw [g1]
      refine ⟨e1, ?_, g2⟩
      cases x with
      | exit i => exact absurd h (hne _ _ _)
      | _ => rfl
  | .loop keep c, l, e, M, x, l', M', s, h => by
    simp only [bexec] at h
    simp only [aexec]
    exact bloop_ok (fun l e M x l' M' s h => bexec_ok hC c l e M x l' M' s h) keep K _ _ _ _ _ _ s h
  | .exit id, l, e, M, x, l', M', s, h => by
    simp only [bexec, Option.some.injEq, Prod.mk.injEq] at h
    obtain ⟨rfl, rfl, rfl⟩ := h
    exact ⟨e, rfl, s⟩
  | .ret, l, e, M, x, l', M', s, h => by
    simp only [bexec, Option.some.injEq, Prod.mk.injEq] at h
    obtain ⟨rfl, rfl, rfl⟩ := h
    exact ⟨e, rfl, s⟩
  | .fail, _, _, _, _, _, _, _, h => by simp [bexec] at h

theorem bResL_eq {n : Nat} {l : Fast} {e : Env} (s : Same n l e) (M : Heap) : ∀ rs : List ARes, bResL rs l M = aResL rs e M
  | [] => rfl
  | r :: rs => by
    have h1 : bRes r l M = aRes r e M := by
      cases r with
      | tmp t =>
        simp only [bRes, aRes, s.get]
        generalize e.getD t .undef = x
        cases x <;> rfl
      | cell t g n => simp only [bRes, aRes, s.get]
    simp only [bResL, aResL, h1, bResL_eq s M rs]

theorem bResults_eq {n : Nat} {l : Fast} {e : Env} (s : Same n l e) (M : Heap) (rs : List ARes) : bResults rs l M = aResults rs e M := by
  unfold bResults aResults
  rw [bResL_eq s]
  congr 1

theorem look_start : ∀ (l : List AV) (i t : Nat), look (start i l) t = if i ≤ t then l.getD (t - i) .undef else .undef
  | [], i, t => by simp [start, look]
  | v :: r, i, t => by
    simp only [start, look]
    cases hb : Nat.beq i t with
    | true =>
      obtain rfl := Nat.eq_of_beq_eq_true hb
      simp
    | false =>
      have hne : i ≠ t := fun e => by subst e; rw [Nat.beq_refl] at hb; cases hb
      simp only
      rw [look_start r (i + 1) t]
      by_cases h : i ≤ t
      · rw [if_pos h, if_pos (by omega), show t - i = (t - (i + 1)) + 1 from by omega, List.getD_cons_succ]
      · rw [if_neg h, if_neg (by omega)]

theorem bbody_ok {C C' : ACalls} (hC : C.Le C') {K : Nat} {f : AFunc} {args : List AV} {M : Heap} {r : AV × Heap} (h : bbody C K f args M = some r) : abody C' K f args M = some r := by
  unfold bbody at h
  unfold abody
  split at h
  case isFalse => cases h
  rename_i hcond
  rw [if_pos hcond]
  have s : Same f.ntmps (start 0 (args ++ List.replicate (f.ntmps - f.nargs) (.tuple []))) (args ++ List.replicate (f.ntmps - f.nargs) (.tuple [])) :=
    ⟨by simp; omega, fun t => by rw [look_start]; simp⟩
  split at h
  · rename_i l M1 h1
    obtain ⟨e1, g1, g2⟩ := bexec_ok hC f.code _ _ _ _ _ _ s h1
    rw [g1]
    rw [bResults_eq g2] at h
    exact h
  · rename_i l M1 h1
    obtain ⟨e1, g1, g2⟩ := bexec_ok hC f.code _ _ _ _ _ _ s h1
    rw [g1]
    rw [bResults_eq g2] at h
    exact h
  · cases h

theorem bcall_ok {G : Sums} {T : FuncId → Option AFunc} {K : Nat} : ∀ d, (bcall G T K d).Le (acall G T K d)
  | 0 => fun f a M r h => by simp [bcall] at h
  | d + 1 => fun f a M r h => by
    simp only [bcall] at h
    simp only [acall]
    split at h
    · rename_i g hg
      rw [hg]
      exact h
    · rename_i hg
      rw [hg]
      split at h
      · rename_i af haf
        rw [haf]
        exact bbody_ok (bcall_ok d) h
      · cases h

end Go.Proofs.Ytlcjmchhnbdepaa
end
