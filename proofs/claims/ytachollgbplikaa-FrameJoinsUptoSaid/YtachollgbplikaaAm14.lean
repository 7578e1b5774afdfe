/- The abstract machine, fourteenth part: each operation of a drawn region, and all of them. -/
import Derived.Test.YtachollgbplikaaAm13
set_option linter.unusedVariables false
set_option linter.unusedSimpArgs false
namespace Go.Proofs.Ytachollgbplikaa

theorem aK_own {o : KOp} {e : Env} {x : Blk} {mk : Mk} (h : aK o e = some (x, mk)) : x.own = true := by
  cases o with
  | alloc z => simp only [aK, Option.some.injEq, Prod.mk.injEq] at h; obtain ⟨rfl, _⟩ := h; rfl
  | makeMap => simp only [aK, Option.some.injEq, Prod.mk.injEq] at h; obtain ⟨rfl, _⟩ := h; rfl
  | box y =>
    simp only [aK] at h
    obtain ⟨cs, _, h⟩ := Option.map_eq_some_iff.1 h
    simp only [Prod.mk.injEq] at h
    obtain ⟨rfl, _⟩ := h
    rfl
  | buildSlice a b c d =>
    simp only [aK] at h
    obtain ⟨cs, _, h⟩ := Option.map_eq_some_iff.1 h
    simp only [Prod.mk.injEq] at h
    obtain ⟨rfl, _⟩ := h
    rfl
  | makeSlice a b c d f =>
    simp only [aK, aMakeSlice] at h
    split at h
    case h_2 => cases h
    split at h
    case isFalse => cases h
    simp only [Option.some.injEq, Prod.mk.injEq] at h
    obtain ⟨rfl, _⟩ := h
    rfl
  | strBytes y =>
    simp only [aK] at h
    split at h
    case h_2 => cases h
    split at h
    case isFalse => cases h
    simp only [Option.some.injEq, Prod.mk.injEq] at h
    obtain ⟨rfl, _⟩ := h
    rfl

section
variable {P : Program} {C : ACalls} {base nk : Nat} {ds : List DOper} {E : Nat → Env} {H : Nat → Heap} {G : Nat → List Heap} {V : Nat → AV} {W : Nat → Bool} {B : Nat → Option Blk} {anc : Nat → Nat → Prop}

theorem B_own (r : DRun C base nk ds E H G V W B) {p : Nat} {x : Blk} (hp : p < ds.length) (h : B p = some x) : x.own = true := by
  have hd : ds[p]? = some ds[p] := by simp [hp]
  have st := r.step p _ hd
  cases hw : W p with
  | false => rw [(st.no hw).2.2] at h; cases h
  | true =>
    cases ho : ds[p].o.op with
    | p o => rw [(st.p o hw ho).2.2] at h; cases h
    | l o => rw [(st.l o hw ho).2.2.1] at h; cases h
    | n o => rw [(st.n o hw ho).2] at h; cases h
    | k o =>
      obtain ⟨y, mk, k1, _, _, k4⟩ := st.k o hw ho
      rw [k4] at h
      obtain rfl := Option.some.inj h
      exact aK_own k1

theorem DInv.read (c : DCond nk ds anc) (r : DRun C base nk ds E H G V W B) (hg0 : G 0 = []) {ι0 : Inj} {M0 : Heap} {w0 : World} {q : Nat} {S : Nat → Bool} {ι : Inj} {a : Act} {w : World} (I : DInv base nk ds E H V B anc ι0 M0 w0 q S ι a w) {p : Nat} {d : DOper} (hd : ds[p]? = some d) (hS : S p = false)
    (hpre : ∀ r, anc r p → S r = true) {o : LOp} (ho : d.o.op = .l o) (hw : W p = true) : aL o (envOf ds (E 0) V S) (heapOf base nk ds H B q S) = some (V p) := by
  have st := r.step p d hd
  obtain ⟨h1, _, _, h4⟩ := st.l o hw ho
  have hplt := (List.getElem?_eq_some_iff.1 hd).1
  have hqp := I.frontier c hd hS (by rw [ho]; rfl)
  have hag : Agree o.rd (E p) (envOf ds (E 0) V S) := by
    have := env_agree c r I.closed hd hS hpre
    intro t ht
    exact this t (by simp [AOper.rd, ho, AOp.rd, ht])
  have hsub : ∀ j, q ≤ j → j ≤ ds.length → (∀ i, q ≤ i → i < j → loudAt ds i = false) → ((H j).hide base nk).Sub (heapOf base nk ds H B q S) := by
    intro j j1 j2 j3 b x hx
    obtain ⟨_, g2, _⟩ := heap_quiet c r j j1 j2 j3
    simp only [Heap.hide] at hx
    split at hx
    · cases hx
    · rename_i hb
      rw [g2 b hb] at hx
      simp only [heapOf]
      rw [if_neg hb]
      exact hx
  by_cases hex : ∃ j, q ≤ j ∧ j < p ∧ loudAt ds j = true
  · obtain ⟨j, j1, j2, j3, j4⟩ : ∃ j, q ≤ j ∧ j < p ∧ loudAt ds j = true ∧ ∀ i, q ≤ i → i < j → loudAt ds i = false := by
      obtain ⟨j, hj⟩ := hex
      induction j using Nat.strongRecOn with
      | _ j ih =>
        by_cases hsm : ∃ i, i < j ∧ q ≤ i ∧ i < p ∧ loudAt ds i = true
        · obtain ⟨i, i1, i2⟩ := hsm
          exact ih i i1 i2
        · refine ⟨j, hj.1, hj.2.1, hj.2.2, fun i i1 i2 => ?_⟩
          cases hi : loudAt ds i with
          | false => rfl
          | true => exact absurd ⟨i, i2, i1, by omega, hi⟩ hsm
    have hlo : d.lo ≤ cntLoud ds j := by
      rcases Nat.lt_or_ge (cntLoud ds j) d.lo with h | h
      · have := I.below j (hpre j (c.lo p d j hd (by rw [ho]; rfl) j2 j3 h)) j3
        omega
      · exact h
    have := h4 (cntLoud ds j) (H j) hlo (hist_get r hg0 (by omega) j2 j3)
    rw [← aL_agree hag]
    exact aL_sub (hsub j j1 (by omega) j4) this
  · rw [← aL_agree hag]
    refine aL_sub (hsub p hqp (by omega) fun i i1 i2 => ?_) h1
    cases hi : loudAt ds i with
    | false => rfl
    | true => exact absurd ⟨i, i1, i2, hi⟩ hex

theorem DInv.step (c : DCond nk ds anc) (r : DRun C base nk ds E H G V W B) (hg0 : G 0 = []) {ι0 : Inj} {M0 : Heap} {w0 : World} (hbase : M0.next = base) {q : Nat} {S : Nat → Bool} {ι : Inj} {a : Act} {w : World} (I : DInv base nk ds E H V B anc ι0 M0 w0 q S ι a w)
    {p : Nat} {d : DOper} (hd : ds[p]? = some d) (hS : S p = false) (hpre : ∀ r, anc r p → S r = true) {o : Oper} (hok : OpOk P C o d.o.op) (hdst : o.dst = d.o.dst) :
    (W p = true → ∀ (next : Act → World → Prop) (Q : Exit → Act → World → Prop), (∀ q' ι' v' w', DInv base nk ds E H V B anc ι0 M0 w0 q' (more S p) ι' (a.put o.dst v') w' → next (a.put o.dst v') w') → o.wp P a w next Q) ∧
    (W p = false → ∃ q', DInv base nk ds E H V B anc ι0 M0 w0 q' (more S p) ι (a.put o.dst undef) w) := by
  have st := r.step p d hd
  have hplt := (List.getElem?_eq_some_iff.1 hd).1
  have rr := I.tr.rel
  have hagree := env_agree c r I.closed hd hS hpre
  have hag : Agree d.o.op.rd (E p) (envOf ds (E 0) V S) := fun t ht => hagree t (by simp [AOper.rd, ht])
  rw [hdst]
  cases ho : d.o.op with
  | p po =>
    rw [ho] at hok hag
    have hs := heapOf_same (base := base) (nk := nk) (H := H) (B := B) (q := q) (S := S) hd (by rw [ho]; rfl)
    have fin : ∀ v', VR ι (V p) v' → DInv base nk ds E H V B anc ι0 M0 w0 q (more S p) ι (a.put d.o.dst v') w := fun v' hv =>
      I.quiet c hd hS hpre (by rw [ho]; rfl) (Inj.Le.refl ι) (by rw [hs]; exact I.tr) (fun r d' h1 h2 h3 _ => I.unm r d' h1 h2 h3) hv
    refine ⟨fun hw next Q hn => ?_, fun hw => ⟨q, fin undef ?_⟩⟩
    · have hv := (st.p po hw ho).1
      rw [aP_agree hag] at hv
      obtain ⟨v', hrun, hvr⟩ := hok ι _ a w _ I.env hv
      rw [← hdst] at hn
      exact NOk.of_run hrun (hn q ι v' w (by rw [hdst]; exact fin v' hvr))
    · rw [(st.no hw).1]
      exact VR.unit ι
  | l lo =>
    rw [ho] at hok hag
    have hs := heapOf_same (base := base) (nk := nk) (H := H) (B := B) (q := q) (S := S) hd (by rw [ho]; rfl)
    have fin : ∀ v', VR ι (V p) v' → DInv base nk ds E H V B anc ι0 M0 w0 q (more S p) ι (a.put d.o.dst v') w := fun v' hv =>
      I.quiet c hd hS hpre (by rw [ho]; rfl) (Inj.Le.refl ι) (by rw [hs]; exact I.tr) (fun r d' h1 h2 h3 _ => I.unm r d' h1 h2 h3) hv
    refine ⟨fun hw next Q hn => ?_, fun hw => ⟨q, fin undef ?_⟩⟩
    · have hv := I.read c r hg0 hd hS hpre ho hw
      obtain ⟨v', hrun, hvr⟩ := hok ι _ _ a w _ rr I.env hv
      rw [← hdst] at hn
      exact NOk.of_run hrun (hn q ι v' w (by rw [hdst]; exact fin v' hvr))
    · rw [(st.no hw).1]
      exact VR.unit ι
  | k ko =>
    rw [ho] at hok hag
    have hk : d.o.op.isK = true := by rw [ho]; rfl
    have hqp := I.frontier c hd hS (by rw [ho]; rfl)
    have hslot := slotAt_of c hd hk
    have hix := c.ixlt p d hd hk
    have hget : (heapOf base nk ds H B q S).get (base + d.ix) = none := by
      simp only [heapOf]
      rw [if_pos ⟨by omega, by omega⟩, show base + d.ix - base = d.ix from by omega, hslot]
      simp only
      rw [if_neg (by omega), hS]
      simp
    have hother : ∀ b, b ≠ base + d.ix → (heapOf base nk ds H B q (more S p)).get b = (heapOf base nk ds H B q S).get b := by
      intro b hb
      simp only [heapOf]
      split
      · rename_i hr
        cases hs : slotAt ds (b - base) with
        | none => rfl
        | some p0 =>
          simp only
          have : p0 ≠ p := by
            rintro rfl
            obtain ⟨d', h1, _, h3⟩ := slotAt_some hs
            rw [hd] at h1
            obtain rfl := Option.some.inj h1
            omega
          rw [more_ne this]
      · rfl
    have hself : (heapOf base nk ds H B q (more S p)).get (base + d.ix) = B p := by
      simp only [heapOf]
      rw [if_pos ⟨by omega, by omega⟩, show base + d.ix - base = d.ix from by omega, hslot]
      simp only
      rw [if_neg (by omega), more_self]
      simp
    refine ⟨fun hw next Q hn => ?_, fun hw => ?_⟩
    · obtain ⟨x, mk, k1, k2, k3, k4⟩ := st.k ko hw ho
      rw [aK_agree hag] at k1
      obtain ⟨v', w', ob, N, hrun, hown, hmade, hrel⟩ := hok ι _ a w x mk I.env k1
      have hnone := I.unm p d hd hk hS
      have hle := Inj.set_le hnone ⟨w.heap.size, 0, N⟩
      have hset : (ι.set (base + d.ix) ⟨w.heap.size, 0, N⟩) (base + d.ix) = some ⟨w.heap.size, 0, N⟩ := by simp [Inj.set]
      obtain ⟨hb, hvr⟩ := hrel _ _ hle hset
      have htr := Tr.slot I.tr (id := base + d.ix) (by omega) (by have := I.nextq; simp only [heapOf]; omega) hget hnone hown hmade hb
      have hheap : (heapOf base nk ds H B q S).put (base + d.ix) (some x) = heapOf base nk ds H B q (more S p) := by
        refine heap_ext (fun b => ?_) rfl
        rw [put_get]
        split
        · rename_i hb
          rw [hb, hself, k4]
        · rename_i hb
          rw [hother b hb]
      rw [hheap] at htr
      rw [← hdst] at hn
      refine NOk.of_run hrun (hn q (ι.set (base + d.ix) ⟨w.heap.size, 0, N⟩) v' w' ?_)
      rw [hdst]
      refine I.quiet c hd hS hpre (by rw [ho]; rfl) hle htr (fun s d' h1 h2 h3 h4 => ?_) (by rw [k2]; exact hvr)
      have : base + d'.ix ≠ base + d.ix := fun e => h4 (c.ix s p d' d h1 hd h2 hk (by omega))
      simp only [Inj.set, if_neg this]
      exact I.unm s d' h1 h2 h3
    · refine ⟨q, I.quiet c hd hS hpre (by rw [ho]; rfl) (Inj.Le.refl ι) ?_ (fun s d' h1 h2 h3 _ => I.unm s d' h1 h2 h3) (by rw [(st.no hw).1]; exact VR.unit ι)⟩
      have hheap : heapOf base nk ds H B q (more S p) = heapOf base nk ds H B q S := by
        refine heap_ext (fun b => ?_) rfl
        by_cases hb : b = base + d.ix
        · rw [hb, hself, hget, (st.no hw).2.2]
        · exact hother b hb
      rw [hheap]
      exact I.tr
  | n no =>
    rw [ho] at hok hag
    have hl : d.o.op.loud = true := by rw [ho]; rfl
    obtain ⟨hqp, hheap, hn0, hnx⟩ := I.at_loud c r hd hS hpre hl
    have hX : ∀ i x, pending base nk ds B S p i = some x → (H p).get i = none ∧ i < (H p).next ∧ x.own = true := by
      intro i x hx
      unfold pending at hx
      split at hx
      case isFalse => cases hx
      rename_i hb
      split at hx
      case h_2 => cases hx
      rename_i p0 hs
      split at hx
      case isFalse => cases hx
      rename_i hc
      obtain ⟨d', h1, _, _⟩ := slotAt_some hs
      exact ⟨(hn0 i hb.1 hb.2).1 p0 hs (by omega), by omega, B_own r (List.getElem?_eq_some_iff.1 h1).1 hx⟩
    rw [hheap] at rr
    have htr0 := I.tr
    rw [hheap] at htr0
    refine ⟨fun hw next Q hnext => ?_, fun hw => ?_⟩
    · have hrunA := (st.n no hw ho).1
      rw [aN_agree hag] at hrunA
      have rH : R ι (H p) w := rr.sub (fun b x hx => by
        have : pending base nk ds B S p b = none := by
          cases hb : pending base nk ds B S p b with
          | none => rfl
          | some y => rw [(hX b y hb).1] at hx; cases hx
        rw [over_none this]
        exact hx) rfl
      refine hok ι (H p) _ a w (V p) (H (p + 1)) next Q rH I.env hrunA fun ι' v' w' ht hv => ?_
      have hf := Tr.frame rr hX ht
      rw [hdst]
      refine hnext (p + 1) ι' v' w' ?_
      refine I.behind c hd hS hpre hl hqp (fun b b1 b2 => ⟨fun p0 hs hp0 => ?_, fun hs => ?_⟩) (by have := ht.next; omega) (ht.le rH) (htr0.trans hf) (fun s d' h1 h2 h3 => ?_) hv
      · exact ht.dead b (by omega) ((hn0 b b1 b2).1 p0 hs hp0)
      · exact ht.dead b (by omega) ((hn0 b b1 b2).2 hs)
      · have hix := c.ixlt s d' h1 h2
        rw [ht.agree _ (by omega)]
        exact I.unm s d' h1 h2 h3
    · obtain ⟨n1, n2, n3⟩ := st.no hw
      refine ⟨p + 1, I.behind c hd hS hpre hl hqp (fun b b1 b2 => ?_) (by rw [n2]; exact hnx) (Inj.Le.refl ι) (by rw [n2]; exact htr0) (fun s d' h1 h2 h3 => I.unm s d' h1 h2 h3) (by rw [n1]; exact VR.unit ι)⟩
      rw [n2]
      exact hn0 b b1 b2

end

end Go.Proofs.Ytachollgbplikaa
