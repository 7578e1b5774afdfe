/- The abstract machine, fifteenth part: the orders that the model may draw, and the drawn region as a whole. -/
import Derived.Test.YtachollgbplikaaAm14
set_option linter.unusedVariables false
set_option linter.unusedSimpArgs false
namespace Go.Proofs.Ytachollgbplikaa

/-! ### Orders -/

theorem nodup_len : ∀ (l acc : List Nat), l.Nodup → (∀ x, x ∈ l → x ∈ acc) → l.length ≤ acc.length
  | [], acc, _, _ => by simp
  | x :: l, acc, h, hs => by
    rw [List.nodup_cons] at h
    have hx := hs x (by simp)
    have ih := nodup_len l (acc.erase x) h.2 fun y hy => by
      have hne : y ≠ x := fun e => by subst e; exact h.1 hy
      exact (List.mem_erase_of_ne hne).2 (hs y (by simp [hy]))
    rw [List.length_erase_of_mem hx] at ih
    have : 0 < acc.length := List.length_pos_of_mem hx
    simp
    omega

theorem least {n : Nat} {f : Nat → Prop} (rank : Nat → Nat) (h : ∃ i, i < n ∧ f i) : ∃ i, i < n ∧ f i ∧ ∀ j, j < n → f j → rank i ≤ rank j := by
  obtain ⟨i, hi, hf⟩ := h
  generalize hr : rank i = r
  induction r using Nat.strongRecOn generalizing i with
  | _ r ih =>
    by_cases hs : ∃ j, j < n ∧ f j ∧ rank j < r
    · obtain ⟨j, h1, h2, h3⟩ := hs
      exact ih (rank j) h3 j h1 h2 rfl
    · refine ⟨i, hi, hf, fun j h1 h2 => ?_⟩
      rcases Nat.lt_or_ge (rank j) (rank i) with h | h
      · exact absurd ⟨j, h1, h2, by omega⟩ hs
      · exact h

/-- An order: each operation once, each behind what it hangs on. -/
structure Lin (m : Region.Mode) (ops : Array Oper) (l : List Nat) : Prop where
  nodup : l.Nodup
  lt : ∀ i, i ∈ l → i < ops.size
  all : ∀ i, i < ops.size → i ∈ l
  after : ∀ l1 i l2, l = l1 ++ i :: l2 → ∀ o e, ops[i]? = some o → e ∈ o.after → Region.binds m e = true → e.on ∈ l1

theorem nodup_reverse {l : List Nat} (h : l.Nodup) : l.reverse.Nodup := by
  unfold List.Nodup at h ⊢
  rw [List.pairwise_reverse]
  exact h.imp fun h => Ne.symm h

theorem go_lin {m : Region.Mode} {ops : Array Oper} (rank : Nat → Nat) (hb : ∀ i o e, ops[i]? = some o → e ∈ o.after → Region.binds m e = true → rank e.on < rank i ∧ e.on < ops.size) :
    ∀ (fuel t : Nat) (listed : Array Bool) (acc : List Nat), listed.size = ops.size → (∀ i, i < ops.size → (listed.getD i true = true ↔ i ∈ acc)) → acc.Nodup → (∀ i, i ∈ acc → i < ops.size) →
      (∀ l1 i l2, acc.reverse = l1 ++ i :: l2 → ∀ o e, ops[i]? = some o → e ∈ o.after → Region.binds m e = true → e.on ∈ l1) → fuel + acc.length = ops.size → Lin m ops (Region.linearise.go m ops fuel t listed acc) := by
  intro fuel
  induction fuel with
  | zero =>
    intro t listed acc h1 h2 h3 h4 h5 h6
    simp only [Region.linearise.go]
    refine ⟨nodup_reverse h3, fun i hi => h4 i (by simpa using hi), fun i hi => ?_, h5⟩
    simp only [List.mem_reverse]
    by_cases hm : i ∈ acc
    · exact hm
    · have := nodup_len (i :: acc) (List.range ops.size) (List.nodup_cons.2 ⟨hm, h3⟩) (fun x hx => by
        rcases List.mem_cons.1 hx with rfl | hx
        · simpa using hi
        · simpa using h4 x hx)
      simp at this
      omega
  | succ fuel ih =>
    intro t listed acc h1 h2 h3 h4 h5 h6
    simp only [Region.linearise.go]
    have hF : ∀ i, i < ops.size → (listed.getD i false = true ↔ i ∈ acc) := fun i hi => by
      rw [← h2 i hi]
      simp [Array.getD_eq_getD_getElem?, h1, hi]
    generalize hrs : (List.range ops.size).filter (fun i => !listed.getD i true && ((ops[i]?).map (·.after.all fun e => !Region.binds m e || listed.getD e.on false)).getD false) = rs
    have hne : rs ≠ [] := by
      have hex : ∃ i, i < ops.size ∧ i ∉ acc := by
        refine Classical.byContradiction fun hc => ?_
        have := nodup_len (List.range ops.size) acc List.nodup_range (fun x hx => by
          by_cases hm : x ∈ acc
          · exact hm
          · exact absurd ⟨x, by simpa using hx, hm⟩ hc)
        simp at this
        omega
      obtain ⟨i, i1, i2, i3⟩ := least rank hex
      have hi : i ∈ rs := by
        rw [← hrs, List.mem_filter]
        refine ⟨by simpa using i1, ?_⟩
        have ho : ops[i]? = some ops[i] := by simp [i1]
        rw [ho]
        simp only [Bool.and_eq_true, Bool.not_eq_true', Option.map_some, Option.getD_some, Array.all_eq_true_iff_forall_mem]
        refine ⟨?_, fun e he => ?_⟩
        · cases hl : listed.getD i true with
          | false => rfl
          | true => exact absurd ((h2 i i1).1 hl) i2
        · cases hbd : Region.binds m e with
          | false => simp
          | true =>
            obtain ⟨r1, r2⟩ := hb i _ e ho he hbd
            have hm : e.on ∈ acc := by
              by_cases hm : e.on ∈ acc
              · exact hm
              · have := i3 e.on r2 hm
                omega
            simp [(hF e.on r2).2 hm]
      intro he
      rw [he] at hi
      cases hi
    have hlen : 0 < rs.length := List.length_pos_iff.2 hne
    have hget : ∃ i, rs[t % rs.length]? = some i := ⟨_, List.getElem?_eq_getElem (Nat.mod_lt _ hlen)⟩
    obtain ⟨i, hi⟩ := hget
    rw [hi]
    simp only
    have hmem : i ∈ rs := List.mem_of_getElem? hi
    rw [← hrs, List.mem_filter] at hmem
    obtain ⟨hm1, hm2⟩ := hmem
    have hilt : i < ops.size := by simpa using hm1
    have ho : ops[i]? = some ops[i] := by simp [hilt]
    rw [ho] at hm2
    simp only [Bool.and_eq_true, Bool.not_eq_true', Option.map_some, Option.getD_some, Array.all_eq_true_iff_forall_mem] at hm2
    have hni : i ∉ acc := fun hm => by rw [(h2 i hilt).2 hm] at hm2; cases hm2.1
    refine ih _ _ _ (by simpa using h1) (fun j hj => ?_) (List.nodup_cons.2 ⟨hni, h3⟩) (fun j hj => ?_) ?_ (by simp; omega)
    · simp only [Array.getD_eq_getD_getElem?, Array.getElem?_setIfInBounds, List.mem_cons]
      have := h2 j hj
      rw [Array.getD_eq_getD_getElem?] at this
      by_cases hij : i = j
      · subst hij
        simp [h1, hilt]
      · rw [if_neg hij]
        rw [this]
        simp [Ne.symm hij]
    · rcases List.mem_cons.1 hj with rfl | hj
      · exact hilt
      · exact h4 j hj
    · intro l1 j l2 hl o e ho' he hbd
      rw [List.reverse_cons] at hl
      rcases List.eq_nil_or_concat l2 with rfl | ⟨l2', x, rfl⟩
      · have hl' : acc.reverse ++ [i] = l1 ++ [j] := hl
        have := List.append_inj' hl' rfl
        obtain ⟨e1, e2⟩ := this
        injection e2 with e2
        subst e2
        rw [ho] at ho'
        obtain rfl := Option.some.inj ho'
        have := hm2.2 e he
        rw [hbd] at this
        simp only [Bool.not_true, Bool.false_or] at this
        obtain ⟨_, r2⟩ := hb i _ e ho he hbd
        rw [← e1]
        simpa using (hF e.on r2).1 this
      · have hl' : acc.reverse ++ [i] = (l1 ++ j :: l2') ++ [x] := by rw [hl]; simp
        have := List.append_inj' hl' rfl
        exact h5 l1 j l2' this.1 o e ho' he hbd

theorem linearise_lin {m : Region.Mode} {ops : Array Oper} (rank : Nat → Nat) (hb : ∀ i o e, ops[i]? = some o → e ∈ o.after → Region.binds m e = true → rank e.on < rank i ∧ e.on < ops.size) (t : Nat) : Lin m ops (Region.linearise m ops t) := by
  unfold Region.linearise
  refine go_lin rank hb ops.size t _ [] (by simp) (fun i hi => ?_) (by simp) (by simp) (by simp) (by simp)
  simp [Array.getD_eq_getD_getElem?, hi]

/-- What is asked of the edges: all but gc's own point back; gc's way there is an order, too. -/
def edgesOk (ops : Array Oper) (rho : List Nat) : Bool :=
  ops.toList.zipIdx.all fun p => p.1.after.toList.all fun e =>
    (match e.ground with | .gcOnly _ => true | _ => decide (e.on < p.2)) && (match e.ground with | .textOnly _ => true | _ => decide (rho.idxOf e.on < rho.idxOf p.2 ∧ e.on < ops.size))

theorem schedule_lin {ops : Array Oper} {rho : List Nat} (h : edgesOk ops rho = true) (mixed : Bool) (t : Nat) : Lin .any ops (Region.schedule mixed ops t) := by
  have hE : ∀ (i : Nat) (o : Oper) (e : Edge), ops[i]? = some o → e ∈ o.after → (match e.ground with | .gcOnly _ => true | _ => decide (e.on < i)) = true ∧ (match e.ground with | .textOnly _ => true | _ => decide (rho.idxOf e.on < rho.idxOf i ∧ e.on < ops.size)) = true := by
    intro i o e ho he
    unfold edgesOk at h
    rw [List.all_eq_true] at h
    have := h (o, i) (by rw [List.mem_zipIdx_iff_getElem?]; simpa using ho)
    rw [List.all_eq_true] at this
    have := this e (by simpa using he)
    rw [Bool.and_eq_true] at this
    exact this
  have hlt : ∀ i o, ops[i]? = some o → i < ops.size := fun i o h => (Array.getElem?_eq_some_iff.1 h).1
  have weak : ∀ m l, Lin m ops l → (∀ e, Region.binds .any e = true → Region.binds m e = true) → Lin .any ops l := fun m l L hw =>
    ⟨L.nodup, L.lt, L.all, fun l1 i l2 hl o e ho he hb => L.after l1 i l2 hl o e ho he (hw e hb)⟩
  have hany : ∀ t, Lin .any ops (Region.linearise .any ops t) := linearise_lin id fun i o e ho he hb => by
    have := (hE i o e ho he).1
    cases hg : e.ground <;> simp [Region.binds, hg] at hb this ⊢ <;> (refine ⟨this, ?_⟩; have := hlt i o ho; omega)
  have htext : ∀ t, Lin .any ops (Region.linearise .text ops t) := fun t => weak _ _ (linearise_lin id (fun i o e ho he hb => by
    have := (hE i o e ho he).1
    cases hg : e.ground <;> simp [Region.binds, hg] at hb this ⊢ <;> (refine ⟨this, ?_⟩; have := hlt i o ho; omega)) t) (fun e hb => by cases hg : e.ground <;> simp [Region.binds, hg] at hb ⊢)
  have hgc : ∀ t, Lin .any ops (Region.linearise .gc ops t) := fun t => weak _ _ (linearise_lin (rho.idxOf ·) (fun i o e ho he hb => by
    have := (hE i o e ho he).2
    cases hg : e.ground <;> simp [Region.binds, hg] at hb this ⊢ <;> exact this) t) (fun e hb => by cases hg : e.ground <;> simp [Region.binds, hg] at hb ⊢)
  unfold Region.schedule
  split
  · exact hany t
  · split
    · exact htext _
    · exact hgc _

end Go.Proofs.Ytachollgbplikaa
