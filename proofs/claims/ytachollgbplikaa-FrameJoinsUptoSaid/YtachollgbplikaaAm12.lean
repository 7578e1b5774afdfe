/- The abstract machine, twelfth part: whatever order is drawn, the drawn region comes to what the machine's own order comes to. -/
import Derived.Test.YtachollgbplikaaAm11
set_option linter.unusedVariables false
set_option linter.unusedSimpArgs false
namespace Go.Proofs.Ytachollgbplikaa

def loudAt (ds : List DOper) (p : Nat) : Bool :=
  match ds[p]? with
  | some d => d.o.op.loud
  | none => false

def cntLoud (ds : List DOper) (q : Nat) : Nat := ((List.range q).filter (loudAt ds)).length

def AOp.isK : AOp → Bool
  | .k _ => true
  | _ => false
def AOp.isL : AOp → Bool
  | .l _ => true
  | _ => false

def isSlot (ds : List DOper) (s p : Nat) : Bool :=
  match ds[p]? with
  | some d => d.o.op.isK && d.ix == s
  | none => false
def slotAt (ds : List DOper) (s : Nat) : Option Nat := (List.range ds.length).find? (isSlot ds s)
def isDst (ds : List DOper) (t p : Nat) : Bool :=
  match ds[p]? with
  | some d => d.o.dst == some t
  | none => false
def writer (ds : List DOper) (t : Nat) : Option Nat := (List.range ds.length).find? (isDst ds t)

structure DCond (nk : Nat) (ds : List DOper) (anc : Nat → Nat → Prop) : Prop where
  lt : ∀ (p q : Nat), anc p q → p < q
  dst : ∀ (p q : Nat) (d d' : DOper) (t : Nat), ds[p]? = some d → ds[q]? = some d' → p ≠ q → d.o.dst = some t → d'.o.dst ≠ some t
  rd : ∀ (p q : Nat) (d d' : DOper) (t : Nat), ds[p]? = some d → ds[q]? = some d' → p ≠ q → d'.o.dst = some t → t ∈ d.o.rd → anc q p ∨ anc p q
  loud : ∀ (p q : Nat) (d d' : DOper), ds[p]? = some d → ds[q]? = some d' → p < q → d'.o.op.loud = true → d.o.op.plain = false → anc p q
  lo : ∀ (p : Nat) (d : DOper) (q : Nat), ds[p]? = some d → d.o.op.isL = true → q < p → loudAt ds q = true → cntLoud ds q < d.lo → anc q p
  ixlt : ∀ (p : Nat) (d : DOper), ds[p]? = some d → d.o.op.isK = true → d.ix < nk
  ix : ∀ (p q : Nat) (d d' : DOper), ds[p]? = some d → ds[q]? = some d' → d.o.op.isK = true → d'.o.op.isK = true → d.ix = d'.ix → p = q

theorem find_unique {n : Nat} {f : Nat → Bool} {p : Nat} (hp : p < n) (hf : f p = true) (hu : ∀ q, q < n → f q = true → q = p) : (List.range n).find? f = some p := by
  cases h : (List.range n).find? f with
  | none =>
    rw [List.find?_eq_none] at h
    exact absurd hf (h p (by simpa using hp))
  | some q =>
    have h1 := List.find?_some h
    have h2 := List.mem_of_find?_eq_some h
    rw [hu q (by simpa using h2) h1]

theorem slotAt_of {nk : Nat} {ds : List DOper} {anc : Nat → Nat → Prop} (c : DCond nk ds anc) {p : Nat} {d : DOper} (hp : ds[p]? = some d) (hk : d.o.op.isK = true) : slotAt ds d.ix = some p := by
  refine find_unique (List.getElem?_eq_some_iff.1 hp).1 (by simp [isSlot, hp, hk]) fun q hq h => ?_
  have hq' : ds[q]? = some ds[q] := by simp [hq]
  simp only [isSlot, hq', Bool.and_eq_true, beq_iff_eq] at h
  exact c.ix q p _ _ hq' hp h.1 hk h.2

theorem slotAt_some {ds : List DOper} {s p : Nat} (h : slotAt ds s = some p) : ∃ d, ds[p]? = some d ∧ d.o.op.isK = true ∧ d.ix = s := by
  have h1 := List.find?_some h
  unfold isSlot at h1
  split at h1
  · rename_i d hd
    simp at h1
    exact ⟨d, hd, h1.1, h1.2⟩
  · cases h1

theorem writer_of {nk : Nat} {ds : List DOper} {anc : Nat → Nat → Prop} (c : DCond nk ds anc) {p : Nat} {d : DOper} {t : Nat} (hp : ds[p]? = some d) (ht : d.o.dst = some t) : writer ds t = some p := by
  refine find_unique (List.getElem?_eq_some_iff.1 hp).1 (by simp [isDst, hp, ht]) fun q hq h => ?_
  have hq' : ds[q]? = some ds[q] := by simp [hq]
  simp only [isDst, hq', beq_iff_eq] at h
  rcases Nat.lt_or_ge q p with hlt | hge
  · exact absurd h (fun h => c.dst p q _ _ t hp hq' (by omega) ht h)
  · rcases Nat.eq_or_lt_of_le hge with e | hlt
    · exact e.symm
    · exact absurd h (fun h => c.dst p q _ _ t hp hq' (by omega) ht h)

theorem writer_some {ds : List DOper} {t p : Nat} (h : writer ds t = some p) : ∃ d, ds[p]? = some d ∧ d.o.dst = some t := by
  have h1 := List.find?_some h
  unfold isDst at h1
  split at h1
  · rename_i d hd
    exact ⟨d, hd, by simpa using h1⟩
  · cases h1

section
variable {C : ACalls} {base nk : Nat} {ds : List DOper} {E : Nat → Env} {H : Nat → Heap} {G : Nat → List Heap} {V : Nat → AV} {W : Nat → Bool} {B : Nat → Option Blk} {anc : Nat → Nat → Prop}

/-- The temporaries, some of the operations done. -/
def envOf (ds : List DOper) (e0 : Env) (V : Nat → AV) (S : Nat → Bool) : Env :=
  (List.range e0.length).map fun t => match writer ds t with
    | some p => if S p then V p else e0.getD t .undef
    | none => e0.getD t .undef

theorem envOf_length (e0 : Env) (S : Nat → Bool) : (envOf ds e0 V S).length = e0.length := by simp [envOf]

theorem envOf_getD (e0 : Env) (S : Nat → Bool) (t : Nat) : (envOf ds e0 V S).getD t .undef = if t < e0.length then (match writer ds t with | some p => if S p then V p else e0.getD t .undef | none => e0.getD t .undef) else .undef := by
  rw [List.getD_eq_getElem?_getD]
  simp only [envOf, List.getElem?_map]
  split
  · rename_i h
    simp [List.getElem?_range h]
  · rename_i h
    rw [List.getElem?_eq_none (by simpa using h)]
    rfl

theorem env_ext {e e' : Env} (hl : e.length = e'.length) (h : ∀ t, e.getD t .undef = e'.getD t .undef) : e = e' := by
  refine List.ext_getElem hl fun i h1 h2 => ?_
  have := h i
  rw [List.getD_eq_getElem?_getD, List.getD_eq_getElem?_getD, List.getElem?_eq_getElem h1, List.getElem?_eq_getElem h2] at this
  simpa using this

theorem aput_length (d : Option Nat) (v : AV) (e : Env) : (aput d v e).length = e.length := by cases d <;> simp [aput]

theorem aput_getD (d : Option Nat) (v : AV) (e : Env) (t : Nat) : (aput d v e).getD t .undef = if d = some t ∧ t < e.length then v else e.getD t .undef := by
  cases d with
  | none => simp [aput]
  | some d =>
    simp only [aput, List.getD_eq_getElem?_getD, List.getElem?_set, Option.some.injEq]
    by_cases hdt : d = t
    · subst hdt
      by_cases hl : d < e.length
      · simp [hl]
      · simp [hl]
    · simp [hdt]

/-- The machine's own temporaries. -/
theorem env_at (c : DCond nk ds anc) (r : DRun C base nk ds E H G V W B) : ∀ p, p ≤ ds.length → E p = envOf ds (E 0) V (fun q => decide (q < p))
  | 0, _ => by
    refine env_ext (envOf_length _ _).symm fun t => ?_
    rw [envOf_getD]
    split
    · cases writer ds t <;> simp
    · rename_i h
      rw [List.getD_eq_getElem?_getD, List.getElem?_eq_none (by omega)]
      rfl
  | p + 1, hp => by
    have hd : ds[p]? = some ds[p] := by simp [show p < ds.length from by omega]
    have ih := env_at c r p (by omega)
    rw [(r.step p _ hd).env, ih]
    refine env_ext (by rw [aput_length, envOf_length, envOf_length]) fun t => ?_
    rw [aput_getD, envOf_getD, envOf_getD, envOf_length]
    by_cases hl : t < (E 0).length
    · simp only [hl, and_true, if_true]
      split
      · rename_i hdst
        rw [writer_of c hd hdst]
        simp
      · rename_i hdst
        cases hw : writer ds t with
        | none => simp
        | some q =>
          have hqp : q ≠ p := by
            rintro rfl
            obtain ⟨d, hd', ht⟩ := writer_some hw
            rw [hd] at hd'
            obtain rfl := Option.some.inj hd'
            exact hdst ht
          simp only
          by_cases hq : q < p
          · simp [hq, show q < p + 1 from by omega]
          · simp [hq, show ¬ q < p + 1 from by omega]
    · simp [hl]

/-- What an operation reads is the same, whatever is done besides what is surely ahead. -/
theorem env_agree (c : DCond nk ds anc) (r : DRun C base nk ds E H G V W B) {S : Nat → Bool} (hcl : ∀ p q, S q = true → anc p q → S p = true) {p : Nat} {d : DOper} (hp : ds[p]? = some d) (hS : S p = false) (hpre : ∀ q, anc q p → S q = true) : Agree d.o.rd (E p) (envOf ds (E 0) V S) := by
  intro t ht
  have hplt := (List.getElem?_eq_some_iff.1 hp).1
  rw [env_at c r p (by omega), envOf_getD, envOf_getD]
  split
  · cases hw : writer ds t with
    | none => rfl
    | some q =>
      simp only
      obtain ⟨d', hd', hdst⟩ := writer_some hw
      by_cases hqp : q = p
      · subst hqp
        simp [hS]
      · rcases c.rd p q d d' t hp hd' (Ne.symm hqp) hdst ht with h | h
        · simp [c.lt _ _ h, hpre q h]
        · have : S q = false := by
            cases hq : S q with
            | false => rfl
            | true => rw [hcl p q hq h] at hS; cases hS
          have hlt := c.lt _ _ h
          simp [this, show ¬ q < p from by omega]
  · rfl

theorem env_put (c : DCond nk ds anc) {e0 : Env} {S : Nat → Bool} {p : Nat} {d : DOper} (hp : ds[p]? = some d) : envOf ds e0 V (fun q => q == p || S q) = aput d.o.dst (V p) (envOf ds e0 V S) := by
  refine env_ext (by rw [aput_length, envOf_length, envOf_length]) fun t => ?_
  rw [aput_getD, envOf_getD, envOf_getD, envOf_length]
  by_cases hl : t < e0.length
  · simp only [hl, and_true, if_true]
    by_cases hdst : d.o.dst = some t
    · rw [if_pos hdst, writer_of c hp hdst]
      simp
    · rw [if_neg hdst]
      cases hw : writer ds t with
      | none => rfl
      | some q =>
        have hqp : (q == p) = false := by
          cases hqp : q == p with
          | false => rfl
          | true =>
            have hqp := beq_iff_eq.1 hqp
            subst hqp
            obtain ⟨d', hd', ht⟩ := writer_some hw
            rw [hp] at hd'
            obtain rfl := Option.some.inj hd'
            exact absurd ht hdst
        simp [hqp]
  · simp [hl]

/-! ### The heap, some of the operations done -/

/-- Behind the last loud operation that is done stands 'q'. -/
def heapOf (base nk : Nat) (ds : List DOper) (H : Nat → Heap) (B : Nat → Option Blk) (q : Nat) (S : Nat → Bool) : Heap :=
  { next := (H q).next
    get := fun b => if base ≤ b ∧ b < base + nk then (match slotAt ds (b - base) with | some p => if p < q then (H q).get b else if S p then B p else none | none => none) else (H q).get b }

/-- From q to p no loud operation. -/
theorem heap_quiet (c : DCond nk ds anc) (r : DRun C base nk ds E H G V W B) {q : Nat} : ∀ p, q ≤ p → p ≤ ds.length → (∀ j, q ≤ j → j < p → loudAt ds j = false) →
    (H p).next = (H q).next ∧ (∀ b, ¬ (base ≤ b ∧ b < base + nk) → (H p).get b = (H q).get b) ∧
    ((∀ b p0, base ≤ b → b < base + nk → slotAt ds (b - base) = some p0 → q ≤ p0 → (H q).get b = none) → ∀ b, base ≤ b → b < base + nk → (H p).get b = match slotAt ds (b - base) with | some p0 => if q ≤ p0 ∧ p0 < p then B p0 else (H q).get b | none => (H q).get b) := by
  intro p
  induction p with
  | zero =>
    intro h1 h2 h3
    obtain rfl : q = 0 := by omega
    refine ⟨rfl, fun _ _ => rfl, fun _ b _ _ => ?_⟩
    cases slotAt ds (b - base) <;> simp
  | succ p ih =>
    intro h1 h2 h3
    rcases Nat.eq_or_lt_of_le h1 with e | hlt
    · subst e
      refine ⟨rfl, fun _ _ => rfl, fun _ b _ _ => ?_⟩
      cases hs : slotAt ds (b - base) with
      | none => rfl
      | some p0 => simp only; rw [if_neg (by omega)]
    · obtain ⟨i1, i2, i3⟩ := ih (by omega) (by omega) (fun j a b => h3 j a (by omega))
      have hd : ds[p]? = some ds[p] := by simp [show p < ds.length from by omega]
      have hloud : (ds[p]).o.op.loud = false := by
        have := h3 p (by omega) (by omega)
        simpa [loudAt, hd] using this
      have st := r.step p _ hd
      -- either nothing, or a slot
      have key : (H (p + 1) = H p ∧ B p = none) ∨ (∃ x, ds[p].o.op.isK = true ∧ W p = true ∧ B p = some x ∧ H (p + 1) = (H p).put (base + ds[p].ix) (some x)) := by
        cases hw : W p with
        | false => exact .inl ⟨(st.no hw).2.1, (st.no hw).2.2⟩
        | true =>
          cases ho : ds[p].o.op with
          | p o => exact .inl ⟨(st.p o hw ho).2.1, (st.p o hw ho).2.2⟩
          | l o => exact .inl ⟨(st.l o hw ho).2.1, (st.l o hw ho).2.2.1⟩
          | k o =>
            obtain ⟨x, mk, k1, k2, k3, k4⟩ := st.k o hw ho
            exact .inr ⟨x, by simp [AOp.isK], rfl, k4, k3⟩
          | n o => rw [ho] at hloud; cases hloud
      rcases key with ⟨hH, hB⟩ | ⟨x, hk, hw, hB, hH⟩
      · rw [hH]
        refine ⟨i1, i2, fun hn b b1 b2 => ?_⟩
        rw [i3 hn b b1 b2]
        cases hs : slotAt ds (b - base) with
        | none => rfl
        | some p0 =>
          simp only
          by_cases hp0 : p0 = p
          · subst hp0
            rw [if_neg (by omega), if_pos (by omega), hB, hn b p0 b1 b2 hs (by omega)]
          · by_cases h4 : q ≤ p0 ∧ p0 < p
            · rw [if_pos h4, if_pos (by omega)]
            · rw [if_neg h4, if_neg (by omega)]
      · have hslot := slotAt_of c hd hk
        have hix := c.ixlt p _ hd hk
        rw [hH]
        refine ⟨i1, fun b hb => ?_, fun hn b b1 b2 => ?_⟩
        · rw [put_get, if_neg (by omega)]
          exact i2 b hb
        · rw [put_get]
          by_cases hb : b = base + ds[p].ix
          · subst hb
            rw [if_pos rfl, show base + ds[p].ix - base = ds[p].ix from by omega, hslot]
            simp only
            rw [if_pos (by omega), hB]
          · rw [if_neg hb, i3 hn b b1 b2]
            cases hs : slotAt ds (b - base) with
            | none => rfl
            | some p0 =>
              simp only
              have hp0 : p0 ≠ p := by
                rintro rfl
                obtain ⟨d', hd', _, hix'⟩ := slotAt_some hs
                rw [hd] at hd'
                obtain rfl := Option.some.inj hd'
                omega
              by_cases h4 : q ≤ p0 ∧ p0 < p
              · rw [if_pos h4, if_pos (by omega)]
              · rw [if_neg h4, if_neg (by omega)]

theorem hist_at (r : DRun C base nk ds E H G V W B) (h0 : G 0 = []) : ∀ p, p ≤ ds.length → G p = ((List.range p).filter (loudAt ds)).map H
  | 0, _ => by simp [h0]
  | p + 1, hp => by
    have hd : ds[p]? = some ds[p] := by simp [show p < ds.length from by omega]
    rw [(r.step p _ hd).hist, hist_at r h0 p (by omega), List.range_succ, List.filter_append, List.map_append]
    cases hl : ds[p].o.op.loud <;> simp [loudAt, hd, hl]

theorem hist_get (r : DRun C base nk ds E H G V W B) (h0 : G 0 = []) {p j : Nat} (hp : p ≤ ds.length) (hj : j < p) (hl : loudAt ds j = true) : (G p)[cntLoud ds j]? = some (H j) := by
  rw [hist_at r h0 p hp]
  have e : List.range p = List.range j ++ (List.range' j (p - j)) := by
    have h1 := List.range'_append (s := 0) (m := j) (n := p - j) (step := 1)
    rw [List.range_eq_range', List.range_eq_range']
    simp at h1
    rw [h1]
    congr 1
    omega
  have e2 : List.range' j (p - j) = j :: List.range' (j + 1) (p - j - 1) := by
    obtain ⟨m, hm⟩ : ∃ m, p - j = m + 1 := ⟨p - j - 1, by omega⟩
    rw [hm, List.range'_succ]
    simp
  rw [e, e2, List.filter_append, List.filter_cons, if_pos hl, List.map_append]
  rw [List.getElem?_append_right (by simp [cntLoud])]
  simp [cntLoud]

end

end Go.Proofs.Ytachollgbplikaa
