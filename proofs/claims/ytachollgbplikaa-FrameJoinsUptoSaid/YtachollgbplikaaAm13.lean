/- The abstract machine, thirteenth part: one more operation of a drawn region is done. -/
import Derived.Test.YtachollgbplikaaAm12
set_option linter.unusedVariables false
set_option linter.unusedSimpArgs false
namespace Go.Proofs.Ytachollgbplikaa

theorem put_VRL {ι : Inj} {e : Env} {a : Act} (h : VRL ι e a.tmps.toList) {d : Option Nat} {v : AV} {v' : Value} (hv : VR ι v v') : VRL ι (aput d v e) (a.put d v').tmps.toList := by
  cases d with
  | none => exact h
  | some d =>
    simp only [aput, Act.put, Array.toList_setIfInBounds]
    exact h.set d hv

theorem put_defers (a : Act) (d : Option Nat) (v : Value) : (a.put d v).defers = a.defers := by cases d <;> rfl

theorem heap_ext {M N : Heap} (h : ∀ b, M.get b = N.get b) (hn : M.next = N.next) : M = N := by
  cases M
  cases N
  simp only at h hn
  subst hn
  congr
  funext b
  exact h b

section
variable {P : Program} {C : ACalls} {base nk : Nat} {ds : List DOper} {E : Nat → Env} {H : Nat → Heap} {G : Nat → List Heap} {V : Nat → AV} {W : Nat → Bool} {B : Nat → Option Blk} {anc : Nat → Nat → Prop}

structure DInv (base nk : Nat) (ds : List DOper) (E : Nat → Env) (H : Nat → Heap) (V : Nat → AV) (B : Nat → Option Blk) (anc : Nat → Nat → Prop) (ι0 : Inj) (M0 : Heap) (w0 : World) (q : Nat) (S : Nat → Bool) (ι : Inj) (a : Act) (w : World) : Prop where
  qle : q ≤ ds.length
  qlast : q = 0 ∨ ∃ j, S j = true ∧ loudAt ds j = true ∧ j + 1 = q
  below : ∀ j, S j = true → loudAt ds j = true → j < q
  closed : ∀ p r, S r = true → anc p r → S p = true
  nones : ∀ b, base ≤ b → b < base + nk → (∀ p0, slotAt ds (b - base) = some p0 → q ≤ p0 → (H q).get b = none) ∧ (slotAt ds (b - base) = none → (H q).get b = none)
  nextq : base + nk ≤ (H q).next
  tr : Tr ι0 M0 w0 ι (heapOf base nk ds H B q S) w
  unm : ∀ p d, ds[p]? = some d → d.o.op.isK = true → S p = false → ι (base + d.ix) = none
  env : VRL ι (envOf ds (E 0) V S) a.tmps.toList
  defs : a.defers = []

def more (S : Nat → Bool) (p : Nat) : Nat → Bool := fun r => r == p || S r

theorem more_self (S : Nat → Bool) (p : Nat) : more S p p = true := by simp [more]
theorem more_ne {S : Nat → Bool} {p r : Nat} (h : r ≠ p) : more S p r = S r := by simp [more, h]

/-- An operation that is not loud: what is to be shown. -/
theorem DInv.quiet (c : DCond nk ds anc) {ι0 : Inj} {M0 : Heap} {w0 : World} {q : Nat} {S : Nat → Bool} {ι : Inj} {a : Act} {w : World} (I : DInv base nk ds E H V B anc ι0 M0 w0 q S ι a w) {p : Nat} {d : DOper} (hd : ds[p]? = some d) (hS : S p = false)
    (hpre : ∀ r, anc r p → S r = true) (hq : d.o.op.loud = false) {ι' : Inj} {w' : World} {v' : Value} (hle : ι.Le ι') (ht : Tr ι0 M0 w0 ι' (heapOf base nk ds H B q (more S p)) w') (hu : ∀ r d', ds[r]? = some d' → d'.o.op.isK = true → S r = false → r ≠ p → ι' (base + d'.ix) = none)
    (hv : VR ι' (V p) v') : DInv base nk ds E H V B anc ι0 M0 w0 q (more S p) ι' (a.put d.o.dst v') w' where
  qle := I.qle
  qlast := I.qlast.imp id fun ⟨j, h1, h2, h3⟩ => ⟨j, by simp [more, h1], h2, h3⟩
  below j h1 h2 := by
    by_cases hj : j = p
    · subst hj
      simp [loudAt, hd, hq] at h2
    · rw [more_ne hj] at h1
      exact I.below j h1 h2
  closed r s h1 h2 := by
    by_cases hs : s = p
    · subst hs
      simp [more, hpre r h2]
    · rw [more_ne hs] at h1
      simp [more, I.closed r s h1 h2]
  nones := I.nones
  nextq := I.nextq
  tr := ht
  unm r d' h1 h2 h3 := by
    by_cases hr : r = p
    · subst hr
      simp [more] at h3
    · rw [more_ne hr] at h3
      exact hu r d' h1 h2 h3 hr
  env := by
    have := env_put (V := V) (e0 := E 0) (S := S) c hd
    show VRL ι' (envOf ds (E 0) V (more S p)) _
    unfold more
    rw [this]
    exact put_VRL (VRL.mono hle _ _ I.env) hv
  defs := by rw [put_defers]; exact I.defs

/-- Not a slot: the heap is the same one. -/
theorem heapOf_same {q : Nat} {S : Nat → Bool} {p : Nat} {d : DOper} (hd : ds[p]? = some d) (hk : d.o.op.isK = false) : heapOf base nk ds H B q (more S p) = heapOf base nk ds H B q S := by
  refine heap_ext (fun b => ?_) rfl
  simp only [heapOf]
  split
  · cases hs : slotAt ds (b - base) with
    | none => rfl
    | some p0 =>
      simp only
      have : p0 ≠ p := by
        rintro rfl
        obtain ⟨d', h1, h2, _⟩ := slotAt_some hs
        rw [hd] at h1
        obtain rfl := Option.some.inj h1
        rw [hk] at h2
        cases h2
      rw [more_ne this]
  · rfl

/-- All loud operations ahead of the next one are done. -/
theorem DInv.frontier (c : DCond nk ds anc) {ι0 : Inj} {M0 : Heap} {w0 : World} {q : Nat} {S : Nat → Bool} {ι : Inj} {a : Act} {w : World} (I : DInv base nk ds E H V B anc ι0 M0 w0 q S ι a w) {p : Nat} {d : DOper} (hd : ds[p]? = some d) (hS : S p = false) (hp : d.o.op.plain = false) : q ≤ p := by
  rcases I.qlast with h | ⟨j, h1, h2, h3⟩
  · omega
  · rcases Nat.lt_or_ge p j with hlt | hge
    · have hj := h2
      unfold loudAt at hj
      split at hj
      · rename_i d' hd'
        have := I.closed p j h1 (c.loud p j d d' hd hd' hlt hj hp)
        rw [hS] at this
        cases this
      · cases hj
    · rcases Nat.eq_or_lt_of_le hge with e | hlt
      · subst e
        rw [hS] at h1
        cases h1
      · omega

/-- The pending blocks, at a loud operation. -/
def pending (base nk : Nat) (ds : List DOper) (B : Nat → Option Blk) (S : Nat → Bool) (p : Nat) (b : Nat) : Option Blk :=
  if base ≤ b ∧ b < base + nk then (match slotAt ds (b - base) with | some p0 => if p < p0 ∧ S p0 = true then B p0 else none | none => none) else none

theorem DInv.at_loud (c : DCond nk ds anc) (r : DRun C base nk ds E H G V W B) {ι0 : Inj} {M0 : Heap} {w0 : World} {q : Nat} {S : Nat → Bool} {ι : Inj} {a : Act} {w : World} (I : DInv base nk ds E H V B anc ι0 M0 w0 q S ι a w) {p : Nat} {d : DOper} (hd : ds[p]? = some d) (hS : S p = false)
    (hpre : ∀ r, anc r p → S r = true) (hl : d.o.op.loud = true) :
    q ≤ p ∧ heapOf base nk ds H B q S = (H p).over (pending base nk ds B S p) ∧ (∀ b, base ≤ b → b < base + nk → (∀ p0, slotAt ds (b - base) = some p0 → p ≤ p0 → (H p).get b = none) ∧ (slotAt ds (b - base) = none → (H p).get b = none)) ∧ base + nk ≤ (H p).next := by
  have hplain : d.o.op.plain = false := by
    cases ho : d.o.op with
    | p o => rw [ho] at hl; cases hl
    | _ => rfl
  have hqp := I.frontier c hd hS hplain
  have hplt := (List.getElem?_eq_some_iff.1 hd).1
  have hno : ∀ j, q ≤ j → j < p → loudAt ds j = false := by
    intro j h1 h2
    cases hj : loudAt ds j with
    | false => rfl
    | true =>
      have hj' := hj
      unfold loudAt at hj'
      split at hj'
      · rename_i d' hd'
        have hnp : d'.o.op.plain = false := by
          cases ho : d'.o.op with
          | p o => rw [ho] at hj'; cases hj'
          | _ => rfl
        have := I.below j (hpre j (c.loud j p d' d hd' hd h2 hl hnp)) hj
        omega
      · cases hj'
  obtain ⟨g1, g2, g3⟩ := heap_quiet c r p hqp (by omega) hno
  have g3' := g3 (fun b p0 b1 b2 hs hq => (I.nones b b1 b2).1 p0 hs hq)
  have hK : ∀ p0 s, slotAt ds s = some p0 → p0 ≠ p := by
    rintro p0 s hs rfl
    obtain ⟨d', h1, h2, _⟩ := slotAt_some hs
    rw [hd] at h1
    obtain rfl := Option.some.inj h1
    cases ho : d.o.op with
    | n o => rw [ho] at h2; cases h2
    | p o => rw [ho] at hl; cases hl
    | l o => rw [ho] at hl; cases hl
    | k o => rw [ho] at hl; cases hl
  refine ⟨hqp, heap_ext (fun b => ?_) g1.symm, fun b b1 b2 => ⟨fun p0 hs hp0 => ?_, fun hs => ?_⟩, by rw [g1]; exact I.nextq⟩
  · by_cases hb : base ≤ b ∧ b < base + nk
    · have hg := g3' b hb.1 hb.2
      cases hs : slotAt ds (b - base) with
      | none =>
        rw [hs] at hg
        have hX : pending base nk ds B S p b = none := by simp [pending, hb, hs]
        rw [over_none hX, hg]
        simp [heapOf, hb, hs, (I.nones b hb.1 hb.2).2 hs]
      | some p0 =>
        rw [hs] at hg
        simp only at hg
        have hne := hK p0 _ hs
        rcases Nat.lt_or_ge p0 q with h1 | h1
        · have hX : pending base nk ds B S p b = none := by
            simp only [pending, if_pos hb, hs]
            rw [if_neg (by omega)]
          rw [over_none hX, hg, if_neg (by omega)]
          simp [heapOf, hb, hs, h1]
        · rcases Nat.lt_or_ge p0 p with h2 | h2
          · have hX : pending base nk ds B S p b = none := by
              simp only [pending, if_pos hb, hs]
              rw [if_neg (by omega)]
            rw [over_none hX, hg, if_pos ⟨h1, h2⟩]
            obtain ⟨d', k1, k2, _⟩ := slotAt_some hs
            have hS0 : S p0 = true := hpre p0 (c.loud p0 p d' d k1 hd h2 hl (by cases ho : d'.o.op with | p o => rw [ho] at k2; cases k2 | _ => rfl))
            simp [heapOf, hb, hs, show ¬ p0 < q from by omega, hS0]
          · have hnn := (I.nones b hb.1 hb.2).1 p0 hs h1
            have hlhs : (heapOf base nk ds H B q S).get b = if S p0 then B p0 else none := by
              simp [heapOf, hb, hs, show ¬ p0 < q from by omega]
            rw [hlhs]
            have hgn : (H p).get b = none := by rw [hg, if_neg (by omega)]; exact hnn
            cases hS0 : S p0 with
            | false =>
              have hX : pending base nk ds B S p b = none := by simp [pending, hb, hs, hS0]
              rw [over_none hX, hgn]
              simp
            | true =>
              simp only [if_true]
              cases hB : B p0 with
              | none =>
                have hX : pending base nk ds B S p b = none := by simp [pending, hb, hs, hS0, hB]
                rw [over_none hX, hgn]
              | some x =>
                have hX : pending base nk ds B S p b = some x := by
                  simp only [pending, if_pos hb, hs]
                  rw [if_pos ⟨by omega, hS0⟩, hB]
                rw [over_some hX]
    · have hX : pending base nk ds B S p b = none := by simp only [pending]; rw [if_neg hb]
      rw [over_none hX, g2 b hb]
      simp only [heapOf]
      rw [if_neg hb]
  · have hg := g3' b b1 b2
    rw [hs] at hg
    simp only at hg
    rw [hg]
    have := hK p0 _ hs
    split
    · omega
    · exact (I.nones b b1 b2).1 p0 hs (by omega)
  · have hg := g3' b b1 b2
    rw [hs] at hg
    rw [hg]
    exact (I.nones b b1 b2).2 hs

/-- Behind a loud operation. -/
theorem DInv.behind (c : DCond nk ds anc) {ι0 : Inj} {M0 : Heap} {w0 : World} {q : Nat} {S : Nat → Bool} {ι : Inj} {a : Act} {w : World} (I : DInv base nk ds E H V B anc ι0 M0 w0 q S ι a w) {p : Nat} {d : DOper} (hd : ds[p]? = some d) (hS : S p = false)
    (hpre : ∀ r, anc r p → S r = true) (hl : d.o.op.loud = true) (hqp : q ≤ p)
    (hn : ∀ b, base ≤ b → b < base + nk → (∀ p0, slotAt ds (b - base) = some p0 → p ≤ p0 → (H (p + 1)).get b = none) ∧ (slotAt ds (b - base) = none → (H (p + 1)).get b = none)) (hnx : base + nk ≤ (H (p + 1)).next)
    {ι' : Inj} {w' : World} {v' : Value} (hle : ι.Le ι') (ht : Tr ι0 M0 w0 ι' ((H (p + 1)).over (pending base nk ds B S p)) w') (hu : ∀ r d', ds[r]? = some d' → d'.o.op.isK = true → S r = false → ι' (base + d'.ix) = none)
    (hv : VR ι' (V p) v') : DInv base nk ds E H V B anc ι0 M0 w0 (p + 1) (more S p) ι' (a.put d.o.dst v') w' := by
  have hplt := (List.getElem?_eq_some_iff.1 hd).1
  have hK : ∀ p0 s, slotAt ds s = some p0 → p0 ≠ p := by
    rintro p0 s hs rfl
    obtain ⟨d', h1, h2, _⟩ := slotAt_some hs
    rw [hd] at h1
    obtain rfl := Option.some.inj h1
    cases ho : d.o.op with
    | n o => rw [ho] at h2; cases h2
    | p o => rw [ho] at hl; cases hl
    | l o => rw [ho] at hl; cases hl
    | k o => rw [ho] at hl; cases hl
  have hheap : heapOf base nk ds H B (p + 1) (more S p) = (H (p + 1)).over (pending base nk ds B S p) := by
    refine heap_ext (fun b => ?_) rfl
    by_cases hb : base ≤ b ∧ b < base + nk
    · cases hs : slotAt ds (b - base) with
      | none =>
        have hX : pending base nk ds B S p b = none := by simp [pending, hb, hs]
        rw [over_none hX, (hn b hb.1 hb.2).2 hs]
        simp [heapOf, hb, hs]
      | some p0 =>
        have hne := hK p0 _ hs
        rcases Nat.lt_or_ge p0 (p + 1) with h1 | h1
        · have hX : pending base nk ds B S p b = none := by
            simp only [pending, if_pos hb, hs]
            rw [if_neg (by omega)]
          rw [over_none hX]
          simp [heapOf, hb, hs, h1]
        · have hgn := (hn b hb.1 hb.2).1 p0 hs (by omega)
          have hlhs : (heapOf base nk ds H B (p + 1) (more S p)).get b = if S p0 then B p0 else none := by
            simp [heapOf, hb, hs, show ¬ p0 < p + 1 from by omega, more_ne hne]
          rw [hlhs]
          cases hS0 : S p0 with
          | false =>
            have hX : pending base nk ds B S p b = none := by simp [pending, hb, hs, hS0]
            rw [over_none hX, hgn]
            simp
          | true =>
            simp only [if_true]
            cases hB : B p0 with
            | none =>
              have hX : pending base nk ds B S p b = none := by simp [pending, hb, hs, hS0, hB]
              rw [over_none hX, hgn]
            | some x =>
              have hX : pending base nk ds B S p b = some x := by
                simp only [pending, if_pos hb, hs]
                rw [if_pos ⟨by omega, hS0⟩, hB]
              rw [over_some hX]
    · have hX : pending base nk ds B S p b = none := by simp only [pending]; rw [if_neg hb]
      rw [over_none hX]
      simp only [heapOf]
      rw [if_neg hb]
  constructor
  · omega
  · exact .inr ⟨p, more_self S p, by simp [loudAt, hd, hl], rfl⟩
  · intro j h1 h2
    by_cases hj : j = p
    · omega
    · rw [more_ne hj] at h1
      have := I.below j h1 h2
      omega
  · intro r s h1 h2
    by_cases hs : s = p
    · subst hs
      simp [more, hpre r h2]
    · rw [more_ne hs] at h1
      simp [more, I.closed r s h1 h2]
  · intro b b1 b2
    exact ⟨fun p0 hs hp0 => (hn b b1 b2).1 p0 hs (by omega), (hn b b1 b2).2⟩
  · exact hnx
  · rw [hheap]
    exact ht
  · intro r d' h1 h2 h3
    by_cases hr : r = p
    · subst hr
      simp [more] at h3
    · rw [more_ne hr] at h3
      exact hu r d' h1 h2 h3
  · have := env_put (V := V) (e0 := E 0) (S := S) c hd
    show VRL ι' (envOf ds (E 0) V (more S p)) _
    unfold more
    rw [this]
    exact put_VRL (VRL.mono hle _ _ I.env) hv
  · rw [put_defers]
    exact I.defs

end

end Go.Proofs.Ytachollgbplikaa
