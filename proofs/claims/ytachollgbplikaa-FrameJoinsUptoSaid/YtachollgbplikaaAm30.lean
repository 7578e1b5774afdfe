/- V, sixth part: what stays, what is frozen, code and calls: what V comes to, the machine comes to. -/
import Derived.Test.YtachollgbplikaaAm29
set_option linter.all false
set_option linter.unusedSimpArgs false
namespace Go.Proofs.Ytachollgbplikaa

theorem ddup_spec : ∀ (l seen : List Nat), (ddup seen l).Nodup ∧ ∀ x, x ∈ ddup seen l → x ∈ l ∧ seen.contains x = false
  | [], seen => by simp [ddup]
  | a :: r, seen => by
    simp only [ddup]
    split
    · obtain ⟨h1, h2⟩ := ddup_spec r seen
      exact ⟨h1, fun x hx => ⟨by simp [(h2 x hx).1], (h2 x hx).2⟩⟩
    · rename_i hs
      obtain ⟨h1, h2⟩ := ddup_spec r (a :: seen)
      refine ⟨List.nodup_cons.2 ⟨fun hm => ?_, h1⟩, fun x hx => ?_⟩
      · have := (h2 a hm).2
        simp at this
      · rcases List.mem_cons.1 hx with rfl | hx
        · exact ⟨by simp, by simpa using hs⟩
        · have := h2 x hx
          refine ⟨by simp [this.1], ?_⟩
          have h3 := this.2
          simp at h3 ⊢
          exact h3.2

theorem ixOf_get : ∀ {p : List Nat} {b k : Nat}, ixOf p b = some k → p[k]? = some b
  | [], b, k, h => by simp [ixOf] at h
  | a :: r, b, k, h => by
    simp only [ixOf] at h
    split at h
    · rename_i e
      obtain rfl := Option.some.inj h
      simp [e]
    · obtain ⟨k', h1, rfl⟩ := Option.map_eq_some_iff.1 h
      simpa using ixOf_get h1

/-- What a new name was. -/
def gcAt (m : Nat) (p : List Nat) (i : Nat) : Option Nat := if i < m then some i else p[i - m]?

def gcI (ι : VI) (m : Nat) (p : List Nat) : VI := ⟨fun i => (gcAt m p i).bind ι.to, fun i => match gcAt m p i with
  | some b => ι.sol b
  | none => false, fun i => match gcAt m p i with
  | some b => ι.gone b
  | none => false⟩

theorem gcAt_low {m : Nat} {p : List Nat} {i : Nat} (h : i < m) : gcAt m p i = some i := by simp [gcAt, h]

theorem gcAt_renId {m : Nat} {p : List Nat} {b b' : Nat} (h : renId m p b = some b') : gcAt m p b' = some b := by
  unfold renId at h
  split at h
  · rename_i hb
    obtain rfl := Option.some.inj h
    simp [gcAt, hb]
  · obtain ⟨k, h1, rfl⟩ := Option.map_eq_some_iff.1 h
    simp only [gcAt]
    rw [if_neg (by omega), Nat.add_sub_cancel_left, ixOf_get h1]

theorem gcI_renId {ι : VI} {m : Nat} {p : List Nat} {b b' : Nat} (h : renId m p b = some b') : (gcI ι m p) b' = ι b := by
  simp only [gcI, gcAt_renId h]
  rfl

theorem gcI_some {ι : VI} {m : Nat} {p : List Nat} {i j : Nat} (h : (gcI ι m p) i = some j) : ∃ b, gcAt m p i = some b ∧ ι b = some j := by
  simp only [gcI] at h
  exact Option.bind_eq_some_iff.1 h

theorem own_gcI {ι : VI} {m : Nat} {p : List Nat} {j : Nat} (h : own (gcI ι m p) j) : own ι j := by
  obtain ⟨i, hi, hg⟩ := h
  obtain ⟨b, h1, h2⟩ := gcI_some hi
  simp only [gcI, h1] at hg
  exact ⟨b, h2, hg⟩

mutual
theorem VL.ren {M : Heap} {O O' : Nat → Prop} (hk : Keeps M O M O') {ι : VI} {m : Nat} {p : List Nat} : ∀ (v a : AV), VL M O ι v a → VL M O' (gcI ι m p) (ren m p v) a
  | .undef, _, _ => by simp [Proofs.Ytachollgbplikaa.ren, VL]
  | .bool _, _, e => by simpa [Proofs.Ytachollgbplikaa.ren, VL] using e
  | .int _ _, _, e => by simpa [Proofs.Ytachollgbplikaa.ren, VL] using e
  | .str _, _, e => by simpa [Proofs.Ytachollgbplikaa.ren, VL] using e
  | .ptr none, _, e => by simpa [Proofs.Ytachollgbplikaa.ren, VL] using e
  | .ptr (some q), _, e => by
    simp only [VL] at e
    obtain ⟨j, h1, rfl⟩ := e
    simp only [Proofs.Ytachollgbplikaa.ren]
    split
    · rename_i b hb
      simp only [VL]
      exact ⟨j, by rw [gcI_renId hb]; exact h1, rfl⟩
    · simp [VL]
  | .slice none _ _ _ _, _, e => by simpa [Proofs.Ytachollgbplikaa.ren, VL] using e
  | .slice (some q) _ _ _ _, _, e => by
    simp only [VL] at e
    obtain ⟨j, h1, rfl⟩ := e
    simp only [Proofs.Ytachollgbplikaa.ren]
    split
    · rename_i b hb
      simp only [VL]
      exact ⟨j, by rw [gcI_renId hb]; exact h1, rfl⟩
    · simp [VL]
  | .map none, _, e => by simpa [Proofs.Ytachollgbplikaa.ren, VL] using e
  | .map (some r), _, e => by
    simp only [VL] at e
    obtain ⟨j, h1, rfl⟩ := e
    simp only [Proofs.Ytachollgbplikaa.ren]
    split
    · rename_i b hb
      simp only [VL]
      exact ⟨j, by rw [gcI_renId hb]; exact h1, rfl⟩
    · simp [VL]
  | .func f cs, _, e => by
    simp only [VL] at e
    obtain ⟨cs', rfl, h⟩ := e
    simp only [Proofs.Ytachollgbplikaa.ren, VL]
    exact ⟨cs', rfl, VLL.ren hk cs cs' h⟩
  | .nilFunc, _, e => by simpa [Proofs.Ytachollgbplikaa.ren, VL] using e
  | .agg cs, _, e => by
    simp only [VL] at e
    obtain ⟨cs', rfl, h⟩ := e
    simp only [Proofs.Ytachollgbplikaa.ren, VL]
    exact ⟨cs', rfl, VLL.ren hk cs cs' h⟩
  | .tuple cs, _, e => by
    simp only [VL] at e
    obtain ⟨cs', rfl, h⟩ := e
    simp only [Proofs.Ytachollgbplikaa.ren, VL]
    exact ⟨cs', rfl, VLL.ren hk cs cs' h⟩
  | .list sz len cs ex, a, e => by
    simp only [Proofs.Ytachollgbplikaa.ren]
    exact VL.mono hk ι _ _ a (fun i hi => by simp [idsOf] at hi) e
  | .elem cs, a, e => by
    simp only [Proofs.Ytachollgbplikaa.ren]
    exact VL.mono hk ι _ _ a (fun i hi => by simp [idsOf] at hi) e
  | .acc b o sz n w, _, e => by
    simp only [VL] at e
    obtain ⟨q, s', cap, ex, rfl, g1, g2⟩ := e
    simp only [Proofs.Ytachollgbplikaa.ren]
    split
    · rename_i b' hb
      simp only [VL]
      refine ⟨q, s', cap, ex, rfl, g1, g2.imp (fun ⟨j, h1, h2⟩ => ⟨j, by rw [gcI_renId hb]; exact h1, h2⟩) (fun ⟨h1, h2⟩ => ⟨?_, h2⟩)⟩
      simp only [gcI, gcAt_renId hb]
      exact h1
    · simp [VL]
theorem VLL.ren {M : Heap} {O O' : Nat → Prop} (hk : Keeps M O M O') {ι : VI} {m : Nat} {p : List Nat} : ∀ (l r : List AV), VLL M O ι l r → VLL M O' (gcI ι m p) (renL m p l) r
  | [], [], _ => by simp [renL, VLL]
  | v :: l, a :: r, e => by
    simp only [VLL] at e
    simp only [renL, VLL]
    exact ⟨VL.ren hk v a e.1, VLL.ren hk l r e.2⟩
  | [], _ :: _, e => by simp [VLL] at e
  | _ :: _, [], e => by simp [VLL] at e
end

/-! ### What stays -/

theorem gcTidy_skip {m : Nat} {p : List Nat} {H : Heap} {i : Nat} : ∀ (T : List Nat) (X : Heap), T.contains i = false → (gcTidy m p H T X).get i = X.get i
  | [], X, _ => rfl
  | b :: r, X, h => by
    simp only [List.contains_cons, Bool.or_eq_false_iff] at h
    have hne : i ≠ b := by simpa using h.1
    simp only [gcTidy]
    rw [gcTidy_skip r _ h.2]
    split
    · split
      · simp [Heap.put, hne]
      · rfl
    · rfl

theorem gcTidy_next {m : Nat} {p : List Nat} {H : Heap} : ∀ (T : List Nat) (X : Heap), (gcTidy m p H T X).next = X.next
  | [], X => rfl
  | b :: r, X => by
    simp only [gcTidy]
    rw [gcTidy_next r]
    split
    · split <;> rfl
    · rfl

theorem gcTidy_get {m : Nat} {p : List Nat} {H : Heap} {i : Nat} {y : Blk} : ∀ (T : List Nat) (X : Heap), (gcTidy m p H T X).get i = some y →
    (∃ c ro sl, H.get i = some (.cells c ro sl) ∧ y = .cells (renL m p c) ro sl ∧ i < m) ∨ (X.get i = some y ∧ (T.contains i = true → i < m → ∀ c ro sl, H.get i ≠ some (.cells c ro sl)))
  | [], X, h => .inr ⟨h, by simp⟩
  | b :: r, X, h => by
    simp only [gcTidy] at h
    rcases gcTidy_get r _ h with h | ⟨h1, h2⟩
    · exact .inl h
    · by_cases hb : b < m
      · rw [if_pos hb] at h1
        split at h1
        · rename_i c ro sl hg
          simp only [Heap.put] at h1
          split at h1
          · rename_i e
            subst e
            exact .inl ⟨c, ro, sl, hg, (Option.some.inj h1).symm, hb⟩
          · rename_i e
            refine .inr ⟨h1, fun ht => h2 ?_⟩
            simp only [List.contains_cons, Bool.or_eq_true] at ht
            exact ht.resolve_left (by simpa using e)
        · rename_i hn
          refine .inr ⟨h1, fun ht hi c ro sl hg => ?_⟩
          simp only [List.contains_cons, Bool.or_eq_true] at ht
          rcases ht with ht | ht
          · have : i = b := by simpa using ht
            subst this
            exact hn c ro sl hg
          · exact h2 ht hi c ro sl hg
      · rw [if_neg hb] at h1
        refine .inr ⟨h1, fun ht hi => ?_⟩
        simp only [List.contains_cons, Bool.or_eq_true] at ht
        rcases ht with ht | ht
        · have : i = b := by simpa using ht
          omega
        · exact h2 ht hi

theorem gcPush_next {m : Nat} {p : List Nat} {H : Heap} : ∀ (q : List Nat) (X : Heap), (gcPush m p H q X).next = X.next + q.length
  | [], X => rfl
  | b :: r, X => by
    simp only [gcPush]
    rw [gcPush_next r]
    split <;> simp [Heap.push, Heap.skip] <;> omega

theorem gcPush_old {m : Nat} {p : List Nat} {H : Heap} {i : Nat} : ∀ (q : List Nat) (X : Heap), i < X.next → (gcPush m p H q X).get i = X.get i
  | [], X, _ => rfl
  | b :: r, X, h => by
    simp only [gcPush]
    rw [gcPush_old r]
    · split
      · simp [Heap.push, Nat.ne_of_lt h]
      · rfl
    · split <;> simp [Heap.push, Heap.skip] <;> omega

theorem gcPush_get {m : Nat} {p : List Nat} {H : Heap} {i : Nat} {y : Blk} : ∀ (q : List Nat) (X : Heap), X.Ok → X.next ≤ i → (gcPush m p H q X).get i = some y →
    ∃ b c ro sl, q[i - X.next]? = some b ∧ H.get b = some (.cells c ro sl) ∧ y = .cells (renL m p c) ro sl
  | [], X, ok, h, e => by
    simp only [gcPush] at e
    rw [ok i h] at e
    cases e
  | b :: r, X, ok, h, e => by
    simp only [gcPush] at e
    rcases Nat.eq_or_lt_of_le h with h | h
    · subst h
      rw [gcPush_old r] at e
      · split at e
        · rename_i c ro sl hg
          simp [Heap.push] at e
          exact ⟨b, c, ro, sl, by simp, hg, e.symm⟩
        · simp only [Heap.skip] at e
          rw [ok _ (Nat.le_refl _)] at e
          cases e
      · split <;> simp [Heap.push, Heap.skip]
    · have hX : ∀ X' : Heap, X'.next = X.next + 1 → X'.Ok → (gcPush m p H r X').get i = some y → ∃ b' c ro sl, (b :: r)[i - X.next]? = some b' ∧ H.get b' = some (.cells c ro sl) ∧ y = .cells (renL m p c) ro sl := by
        intro X' hn ok' e'
        obtain ⟨b', c, ro, sl, h1, h2, h3⟩ := gcPush_get r X' ok' (by omega) e'
        refine ⟨b', c, ro, sl, ?_, h2, h3⟩
        rw [show i - X.next = (i - X'.next) + 1 from by omega, List.getElem?_cons_succ]
        exact h1
      split at e
      · exact hX _ rfl (fun j hj => by
          simp only [Heap.push] at hj ⊢
          rw [if_neg (by omega)]
          exact ok j (by omega)) e
      · exact hX X.skip rfl (fun j hj => ok j (by simp only [Heap.skip] at hj; omega)) e

theorem gcTidy_fwd {m : Nat} {p : List Nat} {H : Heap} {i : Nat} {c : List AV} {ro sl : Bool} (hg : H.get i = some (.cells c ro sl)) : ∀ (T : List Nat) (X : Heap), (∃ c', X.get i = some (.cells c' ro sl)) → ∃ c', (gcTidy m p H T X).get i = some (.cells c' ro sl)
  | [], X, h => h
  | b :: r, X, h => by
    simp only [gcTidy]
    refine gcTidy_fwd hg r _ ?_
    split
    · split
      · rename_i c1 ro1 sl1 h1
        by_cases e : i = b
        · subst e
          rw [hg] at h1
          cases h1
          exact ⟨renL m p c, by simp [Heap.put]⟩
        · simpa [Heap.put, e] using h
      · exact h
    · exact h

theorem gcPush_fwd {m : Nat} {p : List Nat} {H : Heap} {b : Nat} {c : List AV} {ro sl : Bool} (hg : H.get b = some (.cells c ro sl)) : ∀ (q : List Nat) (X : Heap) (k : Nat), q[k]? = some b → (gcPush m p H q X).get (X.next + k) = some (.cells (renL m p c) ro sl)
  | [], X, k, h => by simp at h
  | a :: r, X, 0, h => by
    simp at h
    subst h
    simp only [gcPush, hg, Nat.add_zero]
    rw [gcPush_old _ _ (by simp [Heap.push])]
    simp [Heap.push]
  | a :: r, X, k + 1, h => by
    simp only [gcPush]
    have hX : ∀ X' : Heap, X'.next = X.next + 1 → (gcPush m p H r X').get (X.next + (k + 1)) = some (.cells (renL m p c) ro sl) := fun X' hn => by
      have := gcPush_fwd (m := m) (p := p) hg r X' k (by simpa using h)
      rwa [hn, show X.next + 1 + k = X.next + (k + 1) from by omega] at this
    split
    · exact hX _ rfl
    · exact hX _ rfl

/-- Blocks that are older than the frame name nothing younger, but those to be tidied. -/
def FI (fr : Fr) (H : Heap) : Prop := ∀ i, i < fr.mark → fr.tidy.contains i = false → ∀ x, x ∈ idsOfL (cellsOf H i) → x < fr.mark

theorem FI.of_guar {fr : Fr} {H H' : Heap} (h : FI fr H) (g : Guar fr H H') : FI fr H' := fun i h1 h2 x hx => h i h1 h2 x (g i h1 h2 x hx)

theorem Heap.cut_ok (M : Heap) (n : Nat) : (M.cut n).Ok := fun b hb => by
  simp only [Heap.cut] at hb ⊢
  rw [if_neg (by omega)]

theorem gc_ok {fr : Fr} {ι : VI} {H M : Heap} (s : VS ι H M) (hm : fr.mark ≤ H.next) (fi : FI fr H) (p : List Nat) (hnd : p.Nodup) (hp : ∀ b, b ∈ p → fr.mark ≤ b) :
    Res fr fr.mark ι H M (gcI ι fr.mark p) (gcPush fr.mark p H p (gcTidy fr.mark p H fr.tidy (H.cut fr.mark))) M ∧
      ∀ v a, VL M (own ι) ι v a → VL M (own (gcI ι fr.mark p)) (gcI ι fr.mark p) (ren fr.mark p v) a := by
  have hk : Keeps M (own ι) M (own (gcI ι fr.mark p)) := ⟨Nat.le_refl _, fun b _ ho => ⟨rfl, fun h => ho (own_gcI h)⟩⟩
  have hnx : (gcTidy fr.mark p H fr.tidy (H.cut fr.mark)).next = fr.mark := gcTidy_next _ _
  have hok : (gcTidy fr.mark p H fr.tidy (H.cut fr.mark)).Ok := fun b hb => by
    cases hg : (gcTidy fr.mark p H fr.tidy (H.cut fr.mark)).get b with
    | none => rfl
    | some y =>
      rcases gcTidy_get _ _ hg with ⟨_, _, _, _, _, h⟩ | ⟨h, _⟩
      · omega
      · rw [Heap.cut_ok H fr.mark b (by rw [hnx] at hb; exact hb)] at h
        cases h
  have hsame : ∀ i, i < fr.mark → fr.tidy.contains i = false → (gcPush fr.mark p H p (gcTidy fr.mark p H fr.tidy (H.cut fr.mark))).get i = H.get i := fun i h1 h2 => by
    rw [gcPush_old _ _ (by rw [hnx]; exact h1), gcTidy_skip _ _ h2]
    simp [Heap.cut, h1]
  have hp' : ∀ i b, gcAt fr.mark p i = some b → (i < fr.mark ∧ b = i) ∨ (fr.mark ≤ i ∧ p[i - fr.mark]? = some b ∧ fr.mark ≤ b) := fun i b h => by
    simp only [gcAt] at h
    split at h
    · rename_i hi
      exact .inl ⟨hi, (Option.some.inj h).symm⟩
    · rename_i hi
      exact .inr ⟨by omega, h, hp b (List.mem_of_getElem? h)⟩
  have hinj : ∀ i i' b, gcAt fr.mark p i = some b → gcAt fr.mark p i' = some b → i = i' := fun i i' b h h' => by
    rcases hp' i b h with ⟨h1, rfl⟩ | ⟨h1, h2, h3⟩ <;> rcases hp' i' _ h' with ⟨g1, g2⟩ | ⟨g1, g2, g3⟩
    · omega
    · omega
    · omega
    · have := (List.getElem?_inj (List.getElem?_eq_some_iff.1 h2).1 hnd).1 (h2.trans g2.symm)
      omega
  refine ⟨⟨⟨fun i j h => ?_, fun i i' j h h' => ?_, fun i y hy => ?_, fun i h => ?_, fun i h => ?_, fun i hi => ?_, s.okM⟩, ⟨hk, fun i hi => by simp [gcI, gcAt_low hi], fun i hi h => by simp only [gcI, gcAt_low hi]; exact h⟩, fun i h1 h2 x hx => ?_, ?_⟩, fun v a h => VL.ren hk v a h⟩
  · rw [gcPush_next, hnx]
    obtain ⟨b, h1, h2⟩ := gcI_some h
    have := s.lt b j h2
    rcases hp' i b h1 with ⟨g1, rfl⟩ | ⟨g1, g2, g3⟩
    · omega
    · have := (List.getElem?_eq_some_iff.1 g2).1
      omega
  · obtain ⟨b, h1, h2⟩ := gcI_some h
    obtain ⟨b', h1', h2'⟩ := gcI_some h'
    obtain rfl := s.inj _ _ _ h2 h2'
    exact hinj i i' b h1 h1'
  · rcases Nat.lt_or_ge i fr.mark with hi | hi
    · have hat : gcAt fr.mark p i = some i := gcAt_low hi
      have e1 : (gcI ι fr.mark p) i = ι i := by simp [gcI, hat]
      have e2 : (gcI ι fr.mark p).sol i = ι.sol i := by simp [gcI, hat]
      have e3 : (gcI ι fr.mark p).gone i = ι.gone i := by simp [gcI, hat]
      rw [e1, e2, e3]
      rw [gcPush_old _ _ (by rw [hnx]; exact hi)] at hy
      rcases gcTidy_get _ _ hy with ⟨c, ro, sl, h1, rfl, _⟩ | ⟨h1, h2⟩
      · rcases s.blk _ _ h1 with ⟨g0, g1⟩ | ⟨j, g1, ⟨c', ro', sl', g2, g3, g4⟩, g5⟩
        · obtain ⟨ro', g1⟩ := g1
          cases g1
          exact .inl ⟨g0, _, rfl⟩
        · exact .inr ⟨j, g1, ⟨c', ro', sl', g2, g3, VLL.ren hk _ _ g4⟩, g5⟩
      · simp only [Heap.cut, if_pos hi] at h1
        rcases s.blk _ _ h1 with g | ⟨j, g1, g2, g5⟩
        · exact .inl g
        refine .inr ⟨j, g1, ?_, g5⟩
        cases y with
        | map es => exact g2.elim
        | cells c ro sl =>
          have hn : fr.tidy.contains i = false := by
            cases hc : fr.tidy.contains i with
            | false => rfl
            | true => exact absurd h1 (h2 hc hi c ro sl)
          obtain ⟨c', ro', sl', g2, g3, g4⟩ := g2
          refine ⟨c', ro', sl', g2, g3, VLL.mono hk _ _ _ _ (fun x hx => ?_) g4⟩
          have : x < fr.mark := fi i hi hn x (by unfold cellsOf; rw [h1]; exact hx)
          exact ⟨fun j' hj' => by simp [gcI, gcAt_low this, hj'], fun h => by simp only [gcI, gcAt_low this]; exact h⟩
    · obtain ⟨b, c, ro, sl, h1, h2, rfl⟩ := gcPush_get _ _ hok (by rw [hnx]; exact hi) hy
      rw [hnx] at h1
      have hat : gcAt fr.mark p i = some b := by
        simp only [gcAt]
        rw [if_neg (by omega), h1]
      have e1 : (gcI ι fr.mark p) i = ι b := by simp [gcI, hat]
      have e2 : (gcI ι fr.mark p).sol i = ι.sol b := by simp [gcI, hat]
      have e3 : (gcI ι fr.mark p).gone i = ι.gone b := by simp [gcI, hat]
      rw [e1, e2, e3]
      rcases s.blk _ _ h2 with ⟨g0, g1⟩ | ⟨j, g1, ⟨c', ro', sl', g2, g3, g4⟩, g5⟩
      · obtain ⟨ro', g1⟩ := g1
        cases g1
        exact .inl ⟨g0, _, rfl⟩
      · exact .inr ⟨j, g1, ⟨c', ro', sl', g2, g3, VLL.ren hk _ _ g4⟩, g5⟩
  · rw [gcPush_next, hnx]
    simp only [gcI] at h
    split at h
    · rename_i b hb
      obtain ⟨g1, g2⟩ := s.solt b h
      refine ⟨?_, by simp [gcI, hb, g2]⟩
      rcases hp' i b hb with ⟨k1, rfl⟩ | ⟨k1, k2, k3⟩
      · omega
      · have := (List.getElem?_eq_some_iff.1 k2).1
        omega
    · cases h
  · simp only [gcI] at h
    split at h
    · rename_i b hb
      obtain ⟨c, sl, g1⟩ := s.ice b h
      rcases hp' i b hb with ⟨k1, rfl⟩ | ⟨k1, k2, k3⟩
      · rw [gcPush_old _ _ (by rw [hnx]; exact k1)]
        obtain ⟨c', e⟩ := gcTidy_fwd (m := fr.mark) (p := p) g1 fr.tidy (H.cut fr.mark) ⟨c, by simp [Heap.cut, k1, g1]⟩
        exact ⟨c', sl, e⟩
      · have := gcPush_fwd (m := fr.mark) (p := p) g1 p (gcTidy fr.mark p H fr.tidy (H.cut fr.mark)) (i - fr.mark) k2
        rw [hnx, show fr.mark + (i - fr.mark) = i from by omega] at this
        exact ⟨_, sl, this⟩
    · cases h
  · rw [gcPush_next, hnx] at hi
    cases hg : (gcPush fr.mark p H p (gcTidy fr.mark p H fr.tidy (H.cut fr.mark))).get i with
    | none => rfl
    | some y =>
      obtain ⟨b, c, ro, sl, h1, h2, rfl⟩ := gcPush_get _ _ hok (by rw [hnx]; omega) hg
      have := (List.getElem?_eq_some_iff.1 h1).1
      rw [hnx] at this
      omega
  · unfold cellsOf at hx ⊢
    rwa [hsame i h1 h2] at hx
  · rw [gcPush_next, hnx]
    omega

theorem gcIds_ok (m : Nat) (H : Heap) (roots : List Nat) : (gcIds m H roots).Nodup ∧ ∀ b, b ∈ gcIds m H roots → m ≤ b := by
  obtain ⟨h1, h2⟩ := ddup_spec ((reach H roots).filter fun b => decide (m ≤ b) && (H.get b).isSome) []
  refine ⟨h1, fun b hb => ?_⟩
  have := (h2 b hb).1
  rw [List.mem_filter] at this
  have := this.2
  simp only [Bool.and_eq_true, decide_eq_true_eq] at this
  exact this.1

theorem look_cons2 {u t : Nat} {v : AV} {r : Fast} : look ((u, v) :: r) t = if u = t then v else look r t := by
  simp only [look]
  cases hb : Nat.beq u t with
  | true => rw [if_pos (Nat.eq_of_beq_eq_true hb)]
  | false => rw [if_neg (fun h => by subst h; rw [Nat.beq_refl] at hb; cases hb)]

theorem zip_rel {M : Heap} {O : Nat → Prop} {κ : VI} {lA : Fast} : ∀ (keep : List Nat) (vs : List AV), VLL M O κ vs (keep.map (look lA)) → ∀ t, VL M O κ (look (zipKeep keep vs) t) (look lA t) ∧ VL M O κ (look (zipKeep keep vs) t) (look (bkeep lA keep) t)
  | [], _, _, t => by simp [zipKeep, look, VL]
  | k :: r, [], h, _ => by simp [VLL] at h
  | k :: r, v :: vs, h, t => by
    simp only [List.map_cons, VLL] at h
    have ih := zip_rel r vs h.2 t
    simp only [zipKeep, bkeep]
    rw [look_cons2, look_cons2]
    by_cases e : k = t
    · subst e
      simp only [if_true]
      exact ⟨h.1, h.1⟩
    · simp only [if_neg e]
      exact ih

theorem EnvR.map {ι : VI} {M : Heap} {l lA : Fast} (he : EnvR ι M l lA) : ∀ keep : List Nat, VLL M (own ι) ι (keep.map (look l)) (keep.map (look lA))
  | [] => by simp [VLL]
  | k :: r => by
    simp only [List.map_cons, VLL]
    exact ⟨he k, he.map r⟩

/-! ### Freezing -/

theorem idsOf_flat {v : AV} (h : v.flat = true) : idsOf v = [] := by
  cases v with
  | ptr p => cases p <;> simp [AV.flat] at h <;> simp [idsOf]
  | slice p => cases p <;> simp [AV.flat] at h <;> simp [idsOf]
  | map p => cases p <;> simp [AV.flat] at h <;> simp [idsOf]
  | func f cs => cases cs <;> simp [AV.flat] at h <;> simp [idsOf, idsOfL]
  | agg cs => simp [AV.flat] at h
  | tuple cs => simp [AV.flat] at h
  | acc => simp [AV.flat] at h
  | _ => simp [idsOf]

def nestI (nested : Bool) (κ : VI) : VI := if nested then VI.none else κ

theorem frzL_cons {g : AV → Option (AV × List Nat)} {v : AV} {l : List AV} {p : List AV × List Nat} (h : frzL g (v :: l) = some p) : ∃ q r, g v = some q ∧ frzL g l = some r ∧ p = (q.1 :: r.1, q.2 ++ r.2) := by
  simp only [frzL] at h
  split at h
  · rename_i q r h1 h2
    exact ⟨q, r, h1, h2, (Option.some.inj h).symm⟩
  · cases h

theorem frzL_rel {M : Heap} {O O' : Nat → Prop} {κ κ1 κ2 : VI} {g : AV → Option (AV × List Nat)} {P : Nat → Prop} {nested : Bool}
    (hg : ∀ v p a, g v = some p → VL M O κ v a → (∀ b, b ∈ p.2 → P b) → (nested = false → VI.Le κ κ1 (idsOf p.1)) → VL M O' κ2 p.1 a) : ∀ (l : List AV) (p : List AV × List Nat) (r : List AV), frzL g l = some p → VLL M O κ l r → (∀ b, b ∈ p.2 → P b) → (nested = false → VI.Le κ κ1 (idsOfL p.1)) → VLL M O' κ2 p.1 r
  | [], p, r, h, e, _, _ => by
    simp only [frzL, Option.some.injEq] at h
    subst h
    cases r with
    | nil => simp [VLL]
    | cons _ _ => simp [VLL] at e
  | v :: l, p, r, h, e, hP, hL => by
    cases r with
    | nil => simp [VLL] at e
    | cons a r =>
      simp only [VLL] at e
      obtain ⟨q, t, h1, h2, rfl⟩ := frzL_cons h
      simp only [VLL]
      refine ⟨hg v q a h1 e.1 (fun b hb => hP b (by simp [hb])) (fun hn => (hL hn).sub fun i hi => by simp [idsOfL, hi]), frzL_rel hg l t r h2 e.2 (fun b hb => hP b (by simp [hb])) (fun hn => (hL hn).sub fun i hi => by simp [idsOfL, hi])⟩

theorem frzS_some {g : AV → Option (AV × List Nat)} {b sz n : Nat} {ex : Bool} {x : Option (List AV)} {r : AV × List Nat} (h : frzS g b sz n ex x = some r) : ∃ cs p, x = some cs ∧ frzL g cs = some p ∧ r = (.list sz n p.1 ex, b :: p.2) := by
  cases x with
  | none => cases h
  | some cs =>
    simp only [frzS] at h
    cases hp : frzL g cs with
    | none => rw [hp] at h; cases h
    | some p => rw [hp] at h; exact ⟨cs, p, rfl, hp, (Option.some.inj h).symm⟩

section
variable {ι : VI} {H M : Heap} (s : VS ι H M)
include s

theorem frz_cells {O' : Nat → Prop} {κ' : VI} {b j o sz n cap : Nat} {ex ex' : Bool} (hb : ι b = some j) (hn : n ≤ cap) (hex : ex' = true → ex = true ∧ cap = n) {cs : List AV} (hr : H.read b o (n * sz) = some cs) {p : List AV}
    (hOj : ¬ O' j) (hp : ∀ r, VLL M (own ι) ι cs r → VLL M O' VI.none p r) : VL M O' κ' (.list sz n p ex') (.slice (some (j, o)) sz n cap ex) := by
  obtain ⟨cs', h3, h4⟩ := s.read hb hr
  have h5 := hp _ h4
  simp only [VL]
  unfold Heap.read at h3
  split at h3
  case h_2 => cases h3
  rename_i c ro sl hg
  split at h3
  case isFalse => cases h3
  rename_i hle
  obtain rfl := Option.some.inj h3
  refine .inr ⟨j, o, cap, ex, rfl, hn, hex, ?_, fun _ => ⟨c, ro, sl, hg, hOj, (s.lt _ _ hb).2, hle, h5⟩⟩
  have := h5.length
  rw [List.length_take, List.length_drop] at this
  omega

theorem frz_ok {O' : Nat → Prop} (hO : ∀ j, O' j → own ι j) {κ' : VI} : ∀ (k : Nat) (nested : Bool) (v : AV) (p : AV × List Nat) (a : AV), frz H k nested v = some p → VL M (own ι) ι v a →
    (∀ b, b ∈ p.2 → ∀ j, ι b = some j → ¬ O' j) → (nested = false → VI.Le ι κ' (idsOf p.1)) → VL M O' (nestI nested κ') p.1 a := by
  have hk : Keeps M (own ι) M O' := ⟨Nat.le_refl _, fun b _ ho => ⟨rfl, fun h => ho (hO b h)⟩⟩
  have flatc : ∀ (nested : Bool) (v a : AV), idsOf v = [] → VL M (own ι) ι v a → VL M O' (nestI nested κ') v a := fun nested v a hf h =>
    VL.mono hk _ _ _ _ (fun i hi => by rw [hf] at hi; cases hi) h
  intro k
  induction k with
  | zero =>
    intro nested v p a h e hP hL
    simp only [frz] at h
    split at h
    · rename_i hf
      obtain rfl := Option.some.inj h
      exact flatc nested v a (idsOf_flat hf) e
    · cases h
  | succ k ih =>
    intro nested v p a h e hP hL
    have lst : ∀ cs q, frzL (frz H k true) cs = some q → (∀ b, b ∈ q.2 → ∀ j, ι b = some j → ¬ O' j) → ∀ r, VLL M (own ι) ι cs r → VLL M O' VI.none q.1 r := fun cs q h1 h2 r h3 =>
      frzL_rel (κ1 := κ') (κ2 := VI.none) (nested := true) (P := fun b => ∀ j, ι b = some j → ¬ O' j) (fun v p a g1 g2 g3 g4 => ih true v p a g1 g2 g3 g4) _ _ _ h1 h3 h2 (fun h => by cases h)
    have sub : ∀ cs q, frzL (frz H k nested) cs = some q → (∀ b, b ∈ q.2 → ∀ j, ι b = some j → ¬ O' j) → (nested = false → VI.Le ι κ' (idsOfL q.1)) → ∀ r, VLL M (own ι) ι cs r → VLL M O' (nestI nested κ') q.1 r := fun cs q h1 h2 h4 r h3 =>
      frzL_rel (κ1 := κ') (nested := nested) (P := fun b => ∀ j, ι b = some j → ¬ O' j) (fun v p a g1 g2 g3 g4 => ih nested v p a g1 g2 g3 g4) _ _ _ h1 h3 h2 h4
    cases v with
    | acc b o sz n w =>
      simp only [VL] at e
      obtain ⟨q, s', cap, ex, rfl, ⟨g1, g1', g1s⟩, g2⟩ := e
      simp only [frz] at h
      obtain ⟨cs, t, h1, h2, rfl⟩ := frzS_some h
      by_cases hn : n = 0
      · subst hn
        rw [Nat.zero_mul] at h1
        obtain rfl := read_zero h1
        simp only [frzL, Option.some.injEq] at h2
        subst h2
        simp only [VL]
        cases q with
        | none =>
          obtain ⟨rfl, rfl⟩ := g1' rfl
          exact .inl ⟨trivial, trivial, _, rfl⟩
        | some q =>
          obtain rfl := g1s (by simp)
          exact .inr ⟨q.1, q.2, cap, ex, rfl, Nat.zero_le _, (fun h => by cases h), by simp, fun h => absurd rfl h⟩
      · obtain ⟨j, q1, q2, _⟩ := g2.resolve_right (fun h => hn h.2.1)
        have hps := q2 hn
        subst hps
        obtain rfl := g1s (by simp)
        exact frz_cells s q1 g1 (fun h => by cases h) h1 (hP b (by simp) j q1) (lst cs t h2 (fun b hb => hP b (by simp [hb])))
    | slice q sz len cap ex =>
      cases q with
      | none =>
        simp only [frz] at h
        split at h
        · rename_i hz
          obtain ⟨rfl, rfl, rfl⟩ := hz
          obtain rfl := Option.some.inj h
          simp only [VL] at e ⊢
          exact .inl ⟨trivial, trivial, _, e⟩
        · obtain rfl := Option.some.inj h
          exact flatc nested _ a rfl e
      | some q =>
        simp only [VL] at e
        obtain ⟨j, h1, rfl⟩ := e
        simp only [frz] at h
        split at h
        · rename_i hl
          subst hl
          obtain rfl := Option.some.inj h
          simp only [VL]
          refine .inr ⟨j, q.2, cap, ex, rfl, Nat.zero_le _, fun he => ?_, by simp, fun h => absurd rfl h⟩
          simp only [Bool.and_eq_true, beq_iff_eq] at he
          exact he
        · rename_i hl
          split at h
          · cases h
          rename_i hcap
          obtain ⟨cs, t, h2, h3, rfl⟩ := frzS_some h
          refine frz_cells s h1 (by omega) (fun he => ?_) h2 (hP q.1 (by simp) j h1) (lst cs t h3 (fun b hb => hP b (by simp [hb])))
          simp only [Bool.and_eq_true, beq_iff_eq] at he
          exact he
    | ptr q =>
      cases q with
      | none => simp only [frz, Option.some.injEq] at h; subst h; exact flatc nested _ a rfl e
      | some q =>
        simp only [frz] at h
        split at h
        · cases h
        rename_i hn
        obtain rfl := Option.some.inj h
        have hn' : nested = false := by simpa using hn
        subst hn'
        simp only [VL] at e ⊢
        obtain ⟨j, h1, rfl⟩ := e
        exact ⟨j, (hL rfl q.1 (by simp [idsOf])).1 j h1, rfl⟩
    | map q =>
      cases q with
      | none => simp only [frz, Option.some.injEq] at h; subst h; exact flatc nested _ a rfl e
      | some q =>
        simp only [frz] at h
        split at h
        · cases h
        rename_i hn
        obtain rfl := Option.some.inj h
        have hn' : nested = false := by simpa using hn
        subst hn'
        simp only [VL] at e ⊢
        obtain ⟨j, h1, rfl⟩ := e
        exact ⟨j, (hL rfl q (by simp [idsOf])).1 j h1, rfl⟩
    | func f cs =>
      simp only [frz] at h
      obtain ⟨t, h2, rfl⟩ := Option.map_eq_some_iff.1 h
      simp only [VL] at e ⊢
      obtain ⟨cs', rfl, h4⟩ := e
      exact ⟨cs', rfl, sub cs t h2 hP (fun h => (hL h).sub fun i hi => by simpa [idsOf] using hi) _ h4⟩
    | agg cs =>
      simp only [frz] at h
      obtain ⟨t, h2, rfl⟩ := Option.map_eq_some_iff.1 h
      simp only [VL] at e ⊢
      obtain ⟨cs', rfl, h4⟩ := e
      exact ⟨cs', rfl, sub cs t h2 hP (fun h => (hL h).sub fun i hi => by simpa [idsOf] using hi) _ h4⟩
    | tuple cs =>
      simp only [frz] at h
      obtain ⟨t, h2, rfl⟩ := Option.map_eq_some_iff.1 h
      simp only [VL] at e ⊢
      obtain ⟨cs', rfl, h4⟩ := e
      exact ⟨cs', rfl, sub cs t h2 hP (fun h => (hL h).sub fun i hi => by simpa [idsOf] using hi) _ h4⟩
    | _ =>
      simp only [frz, Option.some.injEq] at h
      subst h
      exact flatc nested _ a rfl e

/-- Blocks to be frozen. -/
def Icy (ι : VI) (H : Heap) (b : Nat) : Prop := ((∃ j, ι b = some j) ∨ ι.sol b = true) ∧ ∃ c ro sl, H.get b = some (.cells c ro sl)

omit s in
theorem icy_read {b o n : Nat} {cs : List AV} (hb : (∃ j, ι b = some j) ∨ ι.sol b = true) (h : H.read b o n = some cs) : Icy ι H b := by
  refine ⟨hb, ?_⟩
  unfold Heap.read at h
  split at h
  · rename_i c ro sl hg
    exact ⟨c, ro, sl, hg⟩
  · cases h

omit s in
theorem frzL_icy {g : AV → Option (AV × List Nat)} (hg : ∀ v p a, g v = some p → VL M (own ι) ι v a → ∀ b, b ∈ p.2 → Icy ι H b) : ∀ (l : List AV) (p : List AV × List Nat) (r : List AV), frzL g l = some p → VLL M (own ι) ι l r → ∀ b, b ∈ p.2 → Icy ι H b
  | [], p, r, h, _, b, hb => by
    simp only [frzL, Option.some.injEq] at h
    subst h
    cases hb
  | v :: l, p, r, h, e, b, hb => by
    cases r with
    | nil => simp [VLL] at e
    | cons a r =>
      simp only [VLL] at e
      obtain ⟨q, t, h1, h2, rfl⟩ := frzL_cons h
      rcases List.mem_append.1 hb with hb | hb
      · exact hg v q a h1 e.1 b hb
      · exact frzL_icy hg l t r h2 e.2 b hb

theorem frz_icy : ∀ (k : Nat) (nested : Bool) (v : AV) (p : AV × List Nat) (a : AV), frz H k nested v = some p → VL M (own ι) ι v a → ∀ b, b ∈ p.2 → Icy ι H b := by
  intro k
  induction k with
  | zero =>
    intro nested v p a h e b hb
    simp only [frz] at h
    split at h
    · obtain rfl := Option.some.inj h
      cases hb
    · cases h
  | succ k ih =>
    intro nested v p a h e b hb
    cases v with
    | acc b' o sz n w =>
      simp only [VL] at e
      obtain ⟨q, s', cap, ex, rfl, _, g2⟩ := e
      simp only [frz] at h
      obtain ⟨cs, t, h1, h2, rfl⟩ := frzS_some h
      rcases List.mem_cons.1 hb with rfl | hb
      · exact icy_read (g2.imp (fun ⟨j, h, _⟩ => ⟨j, h⟩) (fun h => h.1)) h1
      · by_cases hn : n = 0
        · subst hn
          rw [Nat.zero_mul] at h1
          obtain rfl := read_zero h1
          simp only [frzL, Option.some.injEq] at h2
          subst h2
          rename_i hb'
          exact nomatch hb'
        · obtain ⟨j, q1, q2, _⟩ := g2.resolve_right (fun h => hn h.2.1)
          obtain ⟨cs', _, h4⟩ := s.read q1 h1
          exact frzL_icy (fun v p a g1 g2 => ih true v p a g1 g2) cs t cs' h2 h4 b hb
    | slice q sz len cap ex =>
      cases q with
      | none =>
        simp only [frz] at h
        split at h <;> obtain rfl := Option.some.inj h <;> cases hb
      | some q =>
        simp only [VL] at e
        obtain ⟨j, q1, rfl⟩ := e
        simp only [frz] at h
        split at h
        · obtain rfl := Option.some.inj h
          cases hb
        · split at h
          · cases h
          obtain ⟨cs, t, h1, h2, rfl⟩ := frzS_some h
          rcases List.mem_cons.1 hb with rfl | hb
          · exact icy_read (.inl ⟨j, q1⟩) h1
          · obtain ⟨cs', _, h4⟩ := s.read q1 h1
            exact frzL_icy (fun v p a g1 g2 => ih true v p a g1 g2) cs t cs' h2 h4 b hb
    | ptr q =>
      cases q with
      | none => simp only [frz, Option.some.injEq] at h; subst h; cases hb
      | some q =>
        simp only [frz] at h
        split at h
        · cases h
        · obtain rfl := Option.some.inj h; cases hb
    | map q =>
      cases q with
      | none => simp only [frz, Option.some.injEq] at h; subst h; cases hb
      | some q =>
        simp only [frz] at h
        split at h
        · cases h
        · obtain rfl := Option.some.inj h; cases hb
    | func f cs =>
      simp only [frz] at h
      obtain ⟨t, h2, rfl⟩ := Option.map_eq_some_iff.1 h
      simp only [VL] at e
      obtain ⟨cs', rfl, h4⟩ := e
      exact frzL_icy (fun v p a g1 g2 => ih nested v p a g1 g2) cs t cs' h2 h4 b hb
    | agg cs =>
      simp only [frz] at h
      obtain ⟨t, h2, rfl⟩ := Option.map_eq_some_iff.1 h
      simp only [VL] at e
      obtain ⟨cs', rfl, h4⟩ := e
      exact frzL_icy (fun v p a g1 g2 => ih nested v p a g1 g2) cs t cs' h2 h4 b hb
    | tuple cs =>
      simp only [frz] at h
      obtain ⟨t, h2, rfl⟩ := Option.map_eq_some_iff.1 h
      simp only [VL] at e
      obtain ⟨cs', rfl, h4⟩ := e
      exact frzL_icy (fun v p a g1 g2 => ih nested v p a g1 g2) cs t cs' h2 h4 b hb
    | _ =>
      simp only [frz, Option.some.injEq] at h
      subst h
      cases hb

end

/-! ### What nobody may write to any more -/

def VI.ice (ι : VI) (S : List Nat) : VI := ⟨ι.to, ι.sol, fun i => ι.gone i || S.contains i⟩

theorem own_ice {ι : VI} {S : List Nat} {j : Nat} (h : own (ι.ice S) j) : own ι j := by
  obtain ⟨i, hi, hg⟩ := h
  simp only [VI.ice, Bool.or_eq_false_iff] at hg
  exact ⟨i, hi, hg.1⟩

theorem not_own_ice {ι : VI} {H M : Heap} (s : VS ι H M) {S : List Nat} {b j : Nat} (hb : b ∈ S) (hj : ι b = some j) : ¬ own (ι.ice S) j := by
  rintro ⟨i, hi, hg⟩
  obtain rfl := s.inj i b j hi hj
  simp only [VI.ice, Bool.or_eq_false_iff] at hg
  have : S.contains i = true := by simpa using hb
  rw [hg.2] at this
  cases this

theorem ice_cells (H : Heap) (S : List Nat) (i : Nat) : cellsOf (H.ice S) i = cellsOf H i := by
  unfold cellsOf Heap.ice
  by_cases hc : S.contains i = true
  · simp only [hc, if_true]
    cases H.get i with
    | none => rfl
    | some x => cases x <;> rfl
  · simp only [hc, if_false, Bool.false_eq_true]

theorem VS.iced {fr : Fr} {ι : VI} {H M : Heap} (s : VS ι H M) {S : List Nat} (hS : ∀ b, b ∈ S → Icy ι H b) : Res fr H.next ι H M (ι.ice S) (H.ice S) M := by
  have hk : Keeps M (own ι) M (own (ι.ice S)) := ⟨Nat.le_refl _, fun b _ ho => ⟨rfl, fun h => ho (own_ice h)⟩⟩
  have hle : ∀ T, VI.Le ι (ι.ice S) T := fun T i _ => ⟨fun _ h => h, fun h => h⟩
  refine ⟨⟨s.lt, s.inj, fun i x hx => ?_, s.solt, fun i hi => ?_, fun i hi => ?_, s.okM⟩, ⟨hk, fun _ _ => ⟨rfl, rfl⟩, fun i _ h => by simp [VI.ice, h]⟩, fun i _ _ x hx => by rwa [ice_cells] at hx, Nat.le_refl _⟩
  · simp only [Heap.ice] at hx
    split at hx
    · rename_i hc
      obtain ⟨hj, c, ro, sl, hg⟩ := hS i (by simpa using hc)
      rw [hg] at hx
      obtain rfl := Option.some.inj hx
      rcases hj with ⟨j, hj⟩ | hj
      case inr =>
        rcases s.blk i _ hg with ⟨_, ro', e⟩ | ⟨j, h1, _⟩
        · cases e
          exact .inl ⟨hj, true, rfl⟩
        · rw [(s.solt i hj).2] at h1
          cases h1
      obtain ⟨c', ro', sl', g1, g2, g3⟩ := s.at hj hg
      exact .inr ⟨j, hj, ⟨c', ro', sl', g1, (fun h => by cases h), VLL.mono hk _ _ _ _ (hle _) g3⟩, fun h => by cases h⟩
    · rename_i hc
      rcases s.blk i x hx with h | ⟨j, h1, h2, h3⟩
      · exact .inl h
      · exact .inr ⟨j, h1, h2.mono hk hle, fun h => by simp only [VI.ice, h3 h, Bool.false_or]; simpa using hc⟩
  · simp only [VI.ice, Bool.or_eq_true] at hi
    simp only [Heap.ice]
    split
    · rename_i hc
      obtain ⟨_, c, ro, sl, hg⟩ := hS i (by simpa using hc)
      rw [hg]
      exact ⟨c, sl, rfl⟩
    · rename_i hc
      exact s.ice i (hi.resolve_right hc)
  · simp only [Heap.ice] at hi ⊢
    rw [s.okH i hi]
    split <;> rfl

theorem solz_ok {fr : Fr} {M : Heap} {z : Nat} {v a : AV} {H : Heap} {ι : VI} (s : VS ι H M) (hm : fr.mark ≤ H.next) (h : VL M (own ι) ι v a) : ∃ ι', Res fr H.next ι H M ι' (solz z v H).2 M ∧ VL M (own ι') ι' (solz z v H).1 a := by
  cases z with
  | zero =>
    simp only [solz]
    split
    · rename_i p hp
      have r0 := s.iced (fr := fr) (frz_icy s 5 false v p a hp h)
      refine ⟨_, r0, ?_⟩
      have := frz_ok s (fun j h => own_ice h) (κ' := ι.ice p.2) 5 false v p a hp h (fun b hb j hj => not_own_ice s hb hj) (fun _ i _ => ⟨fun _ h => h, fun h => h⟩)
      simpa [nestI] using this
    · exact ⟨ι, .refl s, h⟩
  | succ z =>
    obtain ⟨a', M', ι1, e1, e2, e3⟩ := sol1_ok (fr := fr) (z := z + 1) s hm h
    simp only [Option.some.injEq, Prod.mk.injEq] at e1
    obtain ⟨rfl, rfl⟩ := e1
    exact ⟨ι1, e2, e3⟩

theorem solL_ok {fr : Fr} {M : Heap} : ∀ (zs : List Nat) (vs as : List AV) (H : Heap) (ι : VI), VS ι H M → fr.mark ≤ H.next → VLL M (own ι) ι vs as → ∃ ι', Res fr H.next ι H M ι' (solL zs vs H).2 M ∧ VLL M (own ι') ι' (solL zs vs H).1 as
  | _, [], as, H, ι, s, hm, h => by
    cases as with
    | nil => exact ⟨ι, .refl s, by simp [solL, VLL]⟩
    | cons _ _ => simp [VLL] at h
  | zs, v :: vs, as, H, ι, s, hm, h => by
    cases as with
    | nil => simp [VLL] at h
    | cons a as =>
      simp only [VLL] at h
      obtain ⟨ι1, e2, e3⟩ := solz_ok (fr := fr) (z := zs.headD 1) s hm h.1
      obtain ⟨ι2, g1, g2⟩ := solL_ok (fr := fr) zs.tail vs as _ ι1 e2.vs (Nat.le_trans hm e2.next) (VLL.step s e2.stp h.2)
      refine ⟨ι2, e2.trans g1 e2.next, ?_⟩
      simp only [solL, VLL]
      exact ⟨VL.step e2.vs g1.stp e3, g2⟩

theorem solV_ok {fr : Fr} {M : Heap} {zs : List Nat} {v a : AV} {H : Heap} {ι : VI} (s : VS ι H M) (hm : fr.mark ≤ H.next) (h : VL M (own ι) ι v a) : ∃ ι', Res fr H.next ι H M ι' (solV zs v H).2 M ∧ VL M (own ι') ι' (solV zs v H).1 a := by
  unfold solV
  split
  · simp only [VL] at h
    obtain ⟨cs', rfl, h1⟩ := h
    obtain ⟨ι', g1, g2⟩ := solL_ok (fr := fr) zs _ _ _ _ s hm h1
    exact ⟨ι', g1, by simp only [VL]; exact ⟨cs', rfl, g2⟩⟩
  · exact solz_ok (fr := fr) (z := zs.headD 1) s hm h

theorem VLL.renL_all {M : Heap} {O O' : Nat → Prop} {κ κ' : VI} {m : Nat} {p : List Nat} (hv : ∀ v a, VL M O κ v a → VL M O' κ' (Proofs.Ytachollgbplikaa.ren m p v) a) : ∀ (l r : List AV), VLL M O κ l r → VLL M O' κ' (renL m p l) r
  | [], [], _ => by simp [renL, VLL]
  | v :: l, a :: r, e => by
    simp only [VLL] at e
    simp only [renL, VLL]
    exact ⟨hv v a e.1, VLL.renL_all hv l r e.2⟩
  | [], _ :: _, e => by simp [VLL] at e
  | _ :: _, [], e => by simp [VLL] at e

theorem look_bkeep {l : Fast} (t : Nat) : ∀ keep : List Nat, look (bkeep l keep) t = if keep.contains t then look l t else .undef
  | [] => by simp [bkeep, look]
  | k :: r => by
    simp only [bkeep]
    rw [look_cons2, look_bkeep t r]
    by_cases h : k = t
    · subst h
      simp
    · have : (t == k) = false := by simpa using fun e => h e.symm
      rw [if_neg h]
      simp [List.contains_cons, this, show ¬ t = k from fun e => h e.symm]

theorem vkeep_ok {g : Bool} {zs : List Nat} {fr : Fr} {ι : VI} {H M : Heap} (s : VS ι H M) (hm : fr.mark ≤ H.next) (fi : FI fr H) {l lA : Fast} (he : EnvR ι M l lA) (keep : List Nat) :
    ∃ ι', Res fr fr.mark ι H M ι' (vkeep g zs fr l keep H).2 M ∧ EnvR ι' M (vkeep g zs fr l keep H).1 lA ∧ EnvR ι' M (vkeep g zs fr l keep H).1 (bkeep lA keep) := by
  unfold vkeep
  cases g with
  | false =>
    simp only [Bool.false_eq_true, if_false]
    refine ⟨ι, (Res.refl s).weak hm, fun t => ?_, fun t => ?_⟩
    · rw [look_bkeep]
      split
      · exact he t
      · simp [VL]
    · rw [look_bkeep, look_bkeep]
      split
      · exact he t
      · simp [VL]
  | true =>
    simp only [if_true, gc]
    obtain ⟨ι1, r1, v1⟩ := solL_ok (fr := fr) zs _ _ _ _ s hm (he.map keep)
    obtain ⟨h1, h2⟩ := gcIds_ok fr.mark (solL zs (keep.map (look l)) H).2 (idsOfL (solL zs (keep.map (look l)) H).1 ++ fr.tidy)
    obtain ⟨r, hv⟩ := gc_ok r1.vs (Nat.le_trans hm r1.next) (fi.of_guar r1.guar) _ h1 h2
    have hz := fun t => zip_rel keep _ (VLL.renL_all hv _ _ v1) t
    exact ⟨_, (r1.weak hm).trans r (Nat.le_refl _), fun t => (hz t).1, fun t => (hz t).2⟩

/-! ### At a call's end -/

def lowI (ι : VI) (m : Nat) (S : List Nat) : VI := ⟨fun i => if i < m then ι i else none, fun i => if i < m then ι.sol i else false, fun i => if i < m then ι.gone i || S.contains i else false⟩

theorem frzTidy_cons {H : Heap} {m b : Nat} {r : List Nat} {X : Heap} {q : Heap × List Nat} (h : frzTidy H m (b :: r) X = some q) :
    (∃ c ro sl p q', b < m ∧ H.get b = some (.cells c ro sl) ∧ frzL (frz H 5 false) c = some p ∧ (∀ i, i ∈ idsOfL p.1 → i < m) ∧ frzTidy H m r (X.put b (some (.cells p.1 ro sl))) = some q' ∧ q = (q'.1, p.2 ++ q'.2)) ∨ ((b < m → ∀ c ro sl, H.get b ≠ some (.cells c ro sl)) ∧ frzTidy H m r X = some q) := by
  simp only [frzTidy] at h
  split at h
  · rename_i hb
    split at h
    · rename_i c ro sl hg
      split at h
      case h_2 => cases h
      rename_i p hp
      split at h
      case isFalse => cases h
      rename_i hall
      obtain ⟨q', h1, rfl⟩ := Option.map_eq_some_iff.1 h
      refine .inl ⟨c, ro, sl, p, q', hb, hg, hp, fun i hi => ?_, h1, rfl⟩
      rw [List.all_eq_true] at hall
      simpa using hall i hi
    · rename_i hn
      exact .inr ⟨fun _ => hn, h⟩
  · rename_i hb
    exact .inr ⟨fun h => absurd h hb, h⟩

theorem frzTidy_next {H : Heap} {m : Nat} : ∀ (T : List Nat) (X : Heap) (q : Heap × List Nat), frzTidy H m T X = some q → q.1.next = X.next
  | [], X, q, h => by obtain rfl := Option.some.inj h; rfl
  | b :: r, X, q, h => by
    rcases frzTidy_cons h with ⟨c, ro, sl, p, q', _, _, _, _, h1, rfl⟩ | ⟨_, h1⟩
    · exact (frzTidy_next r _ q' h1).trans rfl
    · exact frzTidy_next r _ _ h1

theorem frzTidy_skip {H : Heap} {m i : Nat} : ∀ (T : List Nat) (X : Heap) (q : Heap × List Nat), frzTidy H m T X = some q → T.contains i = false → q.1.get i = X.get i
  | [], X, q, h, _ => by obtain rfl := Option.some.inj h; rfl
  | b :: r, X, q, h, hc => by
    simp only [List.contains_cons, Bool.or_eq_false_iff] at hc
    have hne : i ≠ b := by simpa using hc.1
    rcases frzTidy_cons h with ⟨c, ro, sl, p, q', _, _, _, _, h1, rfl⟩ | ⟨_, h1⟩
    · show q'.1.get i = X.get i
      rw [frzTidy_skip r _ _ h1 hc.2]
      simp [Heap.put, hne]
    · exact frzTidy_skip r _ _ h1 hc.2

theorem frzTidy_fwd {H : Heap} {m i : Nat} {c : List AV} {ro sl : Bool} (hg : H.get i = some (.cells c ro sl)) : ∀ (T : List Nat) (X : Heap) (q : Heap × List Nat), frzTidy H m T X = some q → (∃ c', X.get i = some (.cells c' ro sl)) → ∃ c', q.1.get i = some (.cells c' ro sl)
  | [], X, q, h, hx => by obtain rfl := Option.some.inj h; exact hx
  | b :: r, X, q, h, hx => by
    rcases frzTidy_cons h with ⟨c1, ro1, sl1, p, q', _, h2, _, _, h1, rfl⟩ | ⟨_, h1⟩
    · refine frzTidy_fwd hg r _ q' h1 ?_
      by_cases e : i = b
      · subst e
        rw [hg] at h2
        cases h2
        exact ⟨p.1, by simp [Heap.put]⟩
      · simpa [Heap.put, e] using hx
    · exact frzTidy_fwd hg r _ _ h1 hx

theorem frzTidy_get {H : Heap} {m i : Nat} {y : Blk} : ∀ (T : List Nat) (X : Heap) (q : Heap × List Nat), frzTidy H m T X = some q → q.1.get i = some y →
    (∃ c p ro sl, H.get i = some (.cells c ro sl) ∧ frzL (frz H 5 false) c = some p ∧ y = .cells p.1 ro sl ∧ i < m ∧ (∀ x, x ∈ idsOfL p.1 → x < m) ∧ ∀ b, b ∈ p.2 → b ∈ q.2) ∨ (X.get i = some y ∧ (T.contains i = true → i < m → ∀ c ro sl, H.get i ≠ some (.cells c ro sl)))
  | [], X, q, h, hy => by obtain rfl := Option.some.inj h; exact .inr ⟨hy, by simp⟩
  | b :: r, X, q, h, hy => by
    rcases frzTidy_cons h with ⟨c, ro, sl, p, q', hb, h2, h3, h4, h1, rfl⟩ | ⟨hn, h1⟩
    · rcases frzTidy_get r _ _ h1 hy with ⟨c', p', ro', sl', e1, e2, e3, e4, e5, e6⟩ | ⟨e1, e2⟩
      · exact .inl ⟨c', p', ro', sl', e1, e2, e3, e4, e5, fun b hb => by simp [e6 b hb]⟩
      · simp only [Heap.put] at e1
        split at e1
        · rename_i e
          subst e
          exact .inl ⟨c, p, ro, sl, h2, h3, (Option.some.inj e1).symm, hb, h4, fun b hb => by simp [hb]⟩
        · rename_i e
          refine .inr ⟨e1, fun ht => e2 ?_⟩
          simp only [List.contains_cons, Bool.or_eq_true] at ht
          exact ht.resolve_left (by simpa using e)
    · rcases frzTidy_get r _ _ h1 hy with h | ⟨e1, e2⟩
      · exact .inl h
      · refine .inr ⟨e1, fun ht hi c ro sl hg => ?_⟩
        simp only [List.contains_cons, Bool.or_eq_true] at ht
        rcases ht with ht | ht
        · have : i = b := by simpa using ht
          subst this
          exact hn hi c ro sl hg
        · exact e2 ht hi c ro sl hg

theorem frzTidy_icy {ι : VI} {H M : Heap} (s : VS ι H M) {m : Nat} : ∀ (T : List Nat) (X : Heap) (q : Heap × List Nat), frzTidy H m T X = some q → ∀ b, b ∈ q.2 → Icy ι H b
  | [], X, q, h, b, hb => by obtain rfl := Option.some.inj h; cases hb
  | a :: r, X, q, h, b, hb => by
    rcases frzTidy_cons h with ⟨c, ro, sl, p, q', _, h2, h3, _, h1, rfl⟩ | ⟨hn, h1⟩
    · rcases List.mem_append.1 hb with hb | hb
      · rcases s.blk _ _ h2 with ⟨_, ro1, g1⟩ | ⟨j, g1, ⟨c', ro', sl', g2, g3, g4⟩, g5⟩
        · cases g1
          simp only [frzL, Option.some.injEq] at h3
          subst h3
          cases hb
        · exact frzL_icy (fun v p a e1 e2 => frz_icy s 5 false v p a e1 e2) c p c' h3 g4 b hb
      · exact frzTidy_icy s r _ _ h1 b hb
    · exact frzTidy_icy s r _ _ h1 b hb

theorem frozen_ok {fr : Fr} {ι : VI} {H M : Heap} (s : VS ι H M) (hm : fr.mark ≤ H.next) (fi : FI fr H) {v a : AV} {p : AV × List Nat} {q : Heap × List Nat} (h1 : frz H 5 false v = some p) (h2 : frzTidy H fr.mark fr.tidy (H.cut fr.mark) = some q)
    (h3 : (idsOf p.1).all (fun i => decide (i < fr.mark)) = true) (hv : VL M (own ι) ι v a) :
    Res fr fr.mark ι H M (lowI ι fr.mark (p.2 ++ q.2)) (q.1.ice (p.2 ++ q.2)) M ∧ VL M (own (lowI ι fr.mark (p.2 ++ q.2))) (lowI ι fr.mark (p.2 ++ q.2)) p.1 a := by
  have hicy : ∀ b, b ∈ p.2 ++ q.2 → Icy ι H b := fun b hb => by
    rcases List.mem_append.1 hb with hb | hb
    · exact frz_icy s 5 false v p a h1 hv b hb
    · exact frzTidy_icy s _ _ _ h2 b hb
  have hp2 : ∀ b, b ∈ p.2 → b ∈ p.2 ++ q.2 := fun b hb => by simp [hb]
  have hq2 : ∀ b, b ∈ q.2 → b ∈ p.2 ++ q.2 := fun b hb => by simp [hb]
  generalize hS : p.2 ++ q.2 = S at *
  have hO : ∀ j, own (lowI ι fr.mark S) j → own ι j := by
    rintro j ⟨i, hi, hg⟩
    simp only [lowI] at hi hg
    split at hi
    · rename_i hlt
      rw [if_pos hlt, Bool.or_eq_false_iff] at hg
      exact ⟨i, hi, hg.1⟩
    · cases hi
  have hno : ∀ b, b ∈ S → ∀ j, ι b = some j → ¬ own (lowI ι fr.mark S) j := by
    rintro b hb j hj ⟨i, hi, hg⟩
    simp only [lowI] at hi hg
    split at hi
    · rename_i hlt
      obtain rfl := s.inj i b j hi hj
      rw [if_pos hlt, Bool.or_eq_false_iff] at hg
      have : S.contains i = true := by simpa using hb
      rw [hg.2] at this
      cases this
    · cases hi
  have hk : Keeps M (own ι) M (own (lowI ι fr.mark S)) := ⟨Nat.le_refl _, fun b _ ho => ⟨rfl, fun h => ho (hO b h)⟩⟩
  have hle : ∀ T : List Nat, (∀ i, i ∈ T → i < fr.mark) → VI.Le ι (lowI ι fr.mark S) T := fun T hT i hi => ⟨fun j h => by simp [lowI, hT i hi, h], fun h => by simp [lowI, hT i hi, h]⟩
  have hnx : q.1.next = fr.mark := frzTidy_next _ _ _ h2
  have hget : ∀ i y, (q.1.ice S).get i = some y → ∃ y0, q.1.get i = some y0 ∧ ((S.contains i = false ∧ y = y0) ∨ (S.contains i = true ∧ iceB (some y0) = some y)) := fun i y hy => by
    simp only [Heap.ice] at hy
    split at hy
    · rename_i hc
      cases hg : q.1.get i with
      | none => rw [hg] at hy; cases hy
      | some y0 => exact ⟨y0, rfl, .inr ⟨hc, by rw [← hg]; exact hy⟩⟩
    · rename_i hc
      exact ⟨y, hy, .inl ⟨by simpa using hc, rfl⟩⟩
  have hlow : ∀ i y, q.1.get i = some y → i < fr.mark := fun i y hy => by
    rcases frzTidy_get _ _ _ h2 hy with ⟨_, _, _, _, _, _, _, h, _⟩ | ⟨h, _⟩
    · exact h
    · simp only [Heap.cut] at h
      split at h
      · assumption
      · cases h
  refine ⟨⟨⟨fun i j h => ?_, fun i i' j h h' => ?_, fun i y hy => ?_, fun i h => ?_, fun i h => ?_, fun i hi => ?_, s.okM⟩, ⟨hk, fun i hi => by simp [lowI, hi], fun i hi h => by simp [lowI, hi, h]⟩, fun i g1 g2 x hx => ?_, ?_⟩, ?_⟩
  · simp only [lowI] at h
    show i < q.1.next ∧ _
    rw [hnx]
    split at h
    · have := s.lt i j h
      omega
    · cases h
  · simp only [lowI] at h h'
    split at h <;> split at h' <;> first | (cases h; done) | (cases h'; done) | skip
    exact s.inj _ _ _ h h'
  · obtain ⟨y0, hy0, hcase⟩ := hget i y hy
    have hi := hlow i y0 hy0
    have e1 : (lowI ι fr.mark S) i = ι i := by simp [lowI, hi]
    have e2 : (lowI ι fr.mark S).sol i = ι.sol i := by simp [lowI, hi]
    have e3 : (lowI ι fr.mark S).gone i = (ι.gone i || S.contains i) := by simp [lowI, hi]
    rw [e1, e2, e3]
    have key : (ι.sol i = true ∧ ∃ ro, y0 = .cells [] ro true) ∨ ∃ j, ι i = some j ∧ BL M (own (lowI ι fr.mark S)) (lowI ι fr.mark S) y0 (M.get j) ∧ (y0.ro = false → ι.gone i = false) := by
      rcases frzTidy_get _ _ _ h2 hy0 with ⟨c, t, ro, sl, k1, k2, rfl, _, k4, k5⟩ | ⟨k1, k2⟩
      · rcases s.blk _ _ k1 with ⟨g0, g1⟩ | ⟨j, g1, ⟨c', ro', sl', g2, g3, g4⟩, g5⟩
        · obtain ⟨ro', g1⟩ := g1
          cases g1
          simp only [frzL, Option.some.injEq] at k2
          subst k2
          exact .inl ⟨g0, _, rfl⟩
        · refine .inr ⟨j, g1, ⟨c', ro', sl', g2, g3, ?_⟩, g5⟩
          exact frzL_rel (κ1 := lowI ι fr.mark S) (κ2 := lowI ι fr.mark S) (nested := false) (P := fun b => ∀ j, ι b = some j → ¬ own (lowI ι fr.mark S) j) (fun v p a e1 e2 e3 e4 => frz_ok s hO (κ' := lowI ι fr.mark S) 5 false v p a e1 e2 e3 e4) c t c' k2 g4 (fun b hb => hno b (hq2 b (k5 b hb))) (fun _ => hle _ k4)
      · simp only [Heap.cut, if_pos hi] at k1
        rcases s.blk _ _ k1 with g | ⟨j, g1, g2, g5⟩
        · exact .inl g
        refine .inr ⟨j, g1, ?_, g5⟩
        cases y0 with
        | map es => exact g2.elim
        | cells c ro sl =>
          have hn : fr.tidy.contains i = false := by
            cases hc : fr.tidy.contains i with
            | false => rfl
            | true => exact absurd k1 (k2 hc hi c ro sl)
          obtain ⟨c', ro', sl', g2, g3, g4⟩ := g2
          exact ⟨c', ro', sl', g2, g3, VLL.mono hk _ _ _ _ (hle _ fun x hx => fi i hi hn x (by unfold cellsOf; rw [k1]; exact hx)) g4⟩
    rcases hcase with ⟨hc, rfl⟩ | ⟨hc, hice⟩
    · rw [hc, Bool.or_false]
      exact key
    · rcases key with ⟨g0, ro0, e0⟩ | ⟨j, g1, g2, g5⟩
      · subst e0
        obtain rfl := Option.some.inj hice
        exact .inl ⟨g0, true, rfl⟩
      · cases y0 with
        | map es => exact g2.elim
        | cells c ro sl =>
          obtain rfl := Option.some.inj hice
          obtain ⟨c', ro', sl', g2, g3, g4⟩ := g2
          exact .inr ⟨j, g1, ⟨c', ro', sl', g2, (fun h => by cases h), g4⟩, fun h => by cases h⟩
  · simp only [lowI] at h
    split at h
    · rename_i hi
      show i < q.1.next ∧ _
      rw [hnx]
      exact ⟨hi, by simp [lowI, hi, (s.solt i h).2]⟩
    · cases h
  · simp only [lowI] at h
    split at h
    case isFalse => cases h
    rename_i hi
    rw [Bool.or_eq_true] at h
    have fwd : ∀ c ro sl, H.get i = some (.cells c ro sl) → ∃ c', q.1.get i = some (.cells c' ro sl) := fun c ro sl hg => frzTidy_fwd hg _ _ _ h2 ⟨c, by simp [Heap.cut, hi, hg]⟩
    simp only [Heap.ice]
    by_cases hc : S.contains i = true
    · rw [if_pos hc]
      obtain ⟨_, c, ro, sl, hg⟩ := hicy i (by simpa using hc)
      obtain ⟨c', e⟩ := fwd c ro sl hg
      rw [e]
      exact ⟨c', sl, rfl⟩
    · rw [if_neg hc]
      obtain ⟨c, sl, hg⟩ := s.ice i (h.resolve_right hc)
      obtain ⟨c', e⟩ := fwd c true sl hg
      exact ⟨c', sl, e⟩
  · cases hg : (q.1.ice S).get i with
    | none => rfl
    | some y =>
      obtain ⟨y0, hy0, _⟩ := hget i y hg
      have := hlow i y0 hy0
      have : q.1.next ≤ i := hi
      omega
  · rw [ice_cells] at hx
    unfold cellsOf at hx ⊢
    rw [frzTidy_skip _ _ _ h2 g2] at hx
    simpa [Heap.cut, g1] using hx
  · show fr.mark ≤ q.1.next
    omega
  · have := frz_ok s hO (κ' := lowI ι fr.mark S) 5 false v p a h1 hv (fun b hb => hno b (hp2 b hb)) (fun _ => hle _ fun i hi => by
      rw [List.all_eq_true] at h3
      simpa using h3 i hi)
    simpa [nestI] using this

/-! ### Code -/

def BodyR (fr : Fr) (body bodyA : Fast → Heap → BOut) : Prop := ∀ (l lA : Fast) (H M : Heap) (ι : VI) (x : Ex) (l' : Fast) (H' : Heap), VS ι H M → fr.mark ≤ H.next → FI fr H → EnvR ι M l lA → body l H = some (x, l', H') →
  ∃ lA' M' ι', bodyA lA M = some (x, lA', M') ∧ Res fr fr.mark ι H M ι' H' M' ∧ EnvR ι' M' l' lA'

theorem vloop_ok {fr : Fr} {body bodyA : Fast → Heap → BOut} (hb : BodyR fr body bodyA) (g : Bool) (zs keep out : List Nat) : ∀ k, BodyR fr (vloop body g zs fr keep out k) (bloop bodyA keep k)
  | 0 => fun l lA H M ι x l' H' _ _ _ _ h => by simp [vloop] at h
  | k + 1 => fun l lA H M ι x l' H' s hm fi he h => by
    simp only [vloop] at h
    simp only [bloop]
    obtain ⟨ι1, r1, _, e1⟩ := vkeep_ok (g := g) (zs := zs) s hm fi he keep
    split at h
    · rename_i l2 H2 h2
      obtain ⟨lA2, M2, ι2, g1, g2, g3⟩ := hb _ _ _ _ _ _ _ _ r1.vs r1.next (fi.of_guar r1.guar) e1 h2
      rw [g1]
      simp only
      obtain ⟨lA', M', ι', q1, q2, q3⟩ := vloop_ok hb g zs keep out k _ _ _ _ _ _ _ _ g2.vs g2.next ((fi.of_guar r1.guar).of_guar g2.guar) g3 h
      exact ⟨lA', M', ι', q1, (r1.trans g2 (Nat.le_refl _)).trans q2 (Nat.le_refl _), q3⟩
    · rename_i x2 l2 H2 hne h2
      obtain ⟨lA2, M2, ι2, g1, g2, g3⟩ := hb _ _ _ _ _ _ _ _ r1.vs r1.next (fi.of_guar r1.guar) e1 h2
      simp only [Option.some.injEq, Prod.mk.injEq] at h
      obtain ⟨rfl, rfl, rfl⟩ := h
      obtain ⟨ι3, r3, e3, _⟩ := vkeep_ok (g := g) (zs := zs.drop keep.length) g2.vs g2.next ((fi.of_guar r1.guar).of_guar g2.guar) g3 out
      refine ⟨lA2, M2, ι3, ?_, (r1.trans g2 (Nat.le_refl _)).trans r3 (Nat.le_refl _), e3⟩
      rw [g1]
      cases x2 with
      | normal => exact (hne rfl).elim
      | _ => rfl
    · cases h

theorem vexec_ok {c : VCalls} {C : ACalls} (hC : VSim c C) {K : Nat} {fr : Fr} {n : Nat} : ∀ (code : VCode), code.okc = true → BodyR fr (vexec c K fr n code) (bexec C K n code.erase)
  | .skip, _ => fun l lA H M ι x l' H' s hm fi he h => by
    simp only [vexec, Option.some.injEq, Prod.mk.injEq] at h
    obtain ⟨rfl, rfl, rfl⟩ := h
    exact ⟨lA, M, ι, rfl, (Res.refl s).weak hm, he⟩
  | .reg ops, hc => fun l lA H M ι x l' H' s hm fi he h => by
    simp only [vexec] at h
    obtain ⟨p, h1, h2⟩ := Option.map_eq_some_iff.1 h
    simp only [Prod.mk.injEq] at h2
    obtain ⟨rfl, rfl⟩ := h2
    obtain ⟨lA', M', ι', g1, g2, g3⟩ := vops_ok hC ops _ _ _ _ _ _ s hm he hc h1
    refine ⟨lA', M', ι', ?_, g2.weak hm, g3⟩
    simp only [VCode.erase, bexec, g1]
    rfl
  | .dreg nk ops, hc => fun l lA H M ι x l' H' s hm fi he h => by
    simp only [vexec] at h
    obtain ⟨p, h1, h2⟩ := Option.map_eq_some_iff.1 h
    simp only [Prod.mk.injEq] at h2
    obtain ⟨rfl, rfl⟩ := h2
    obtain ⟨lA', M', ι', g1, g2, g3⟩ := vdreg_ok hC s hm he hc h1
    refine ⟨lA', M', ι', ?_, g2.weak hm, g3⟩
    simp only [VCode.erase, bexec, g1]
    rfl
  | .seq a b, hc => fun l lA H M ι x l' H' s hm fi he h => by
    simp only [VCode.okc, Bool.and_eq_true] at hc
    simp only [vexec] at h
    simp only [VCode.erase, bexec]
    split at h
    · rename_i l1 H1 h1
      obtain ⟨lA1, M1, ι1, g1, g2, g3⟩ := vexec_ok hC a hc.1 _ _ _ _ _ _ _ _ s hm fi he h1
      obtain ⟨lA', M', ι', q1, q2, q3⟩ := vexec_ok hC b hc.2 _ _ _ _ _ _ _ _ g2.vs g2.next (fi.of_guar g2.guar) g3 h
      rw [g1]
      exact ⟨lA', M', ι', q1, g2.trans q2 (Nat.le_refl _), q3⟩
    · rename_i hne
      obtain ⟨lA1, M1, ι1, g1, g2, g3⟩ := vexec_ok hC a hc.1 _ _ _ _ _ _ _ _ s hm fi he h
      refine ⟨lA1, M1, ι1, ?_, g2, g3⟩
      rw [g1]
      cases x with
      | normal => exact absurd h (hne _ _)
      | _ => rfl
  | .cond cx a b, hc => fun l lA H M ι x l' H' s hm fi he h => by
    simp only [VCode.okc, Bool.and_eq_true] at hc
    simp only [vexec] at h
    simp only [VCode.erase, bexec]
    have hx := ev_rel he hc.1.1
    split at h
    · rename_i hb
      rw [hb] at hx
      rw [hx.eq rfl]
      exact vexec_ok hC a hc.1.2 _ _ _ _ _ _ _ _ s hm fi he h
    · rename_i hb
      rw [hb] at hx
      rw [hx.eq rfl]
      exact vexec_ok hC b hc.2 _ _ _ _ _ _ _ _ s hm fi he h
    · cases h
  | .block id a, hc => fun l lA H M ι x l' H' s hm fi he h => by
    simp only [VCode.okc] at hc
    simp only [vexec] at h
    simp only [VCode.erase, bexec]
    split at h
    · rename_i i l1 H1 h1
      obtain ⟨lA1, M1, ι1, g1, g2, g3⟩ := vexec_ok hC a hc _ _ _ _ _ _ _ _ s hm fi he h1
      rw [g1]
      simp only
      split at h
      · rename_i hi
        rw [if_pos hi]
        simp only [Option.some.injEq, Prod.mk.injEq] at h
        obtain ⟨rfl, rfl, rfl⟩ := h
        exact ⟨lA1, M1, ι1, rfl, g2, g3⟩
      · rename_i hi
        rw [if_neg hi]
        simp only [Option.some.injEq, Prod.mk.injEq] at h
        obtain ⟨rfl, rfl, rfl⟩ := h
        exact ⟨lA1, M1, ι1, rfl, g2, g3⟩
    · rename_i hne
      obtain ⟨lA1, M1, ι1, g1, g2, g3⟩ := vexec_ok hC a hc _ _ _ _ _ _ _ _ s hm fi he h
      refine ⟨lA1, M1, ι1, ?_, g2, g3⟩
      rw [g1]
      cases x with
      | exit i => exact absurd h (hne _ _ _)
      | _ => rfl
  | .loop g zs keep out a, hc => fun l lA H M ι x l' H' s hm fi he h => by
    simp only [VCode.okc] at hc
    simp only [vexec] at h
    simp only [VCode.erase, bexec]
    exact vloop_ok (vexec_ok hC a hc) g zs keep out K _ _ _ _ _ _ _ _ s hm fi he h
  | .exit id, _ => fun l lA H M ι x l' H' s hm fi he h => by
    simp only [vexec, Option.some.injEq, Prod.mk.injEq] at h
    obtain ⟨rfl, rfl, rfl⟩ := h
    exact ⟨lA, M, ι, rfl, (Res.refl s).weak hm, he⟩
  | .ret, _ => fun l lA H M ι x l' H' s hm fi he h => by
    simp only [vexec, Option.some.injEq, Prod.mk.injEq] at h
    obtain ⟨rfl, rfl, rfl⟩ := h
    exact ⟨lA, M, ι, rfl, (Res.refl s).weak hm, he⟩
  | .fail, _ => fun l lA H M ι x l' H' s hm fi he h => by simp [vexec] at h

theorem VL.not_undef {M : Heap} {O : Nat → Prop} {κ : VI} {v a : AV} (h : VL M O κ v a) (hv : v ≠ .undef) : a ≠ .undef := by
  rintro rfl
  cases v with
  | undef => exact hv rfl
  | ptr p => cases p <;> simp [VL] at h
  | slice p => cases p <;> simp [VL] at h
  | map p => cases p <;> simp [VL] at h
  | _ => simp [VL] at h

theorem vRes_ok {ι : VI} {H M : Heap} (s : VS ι H M) {l lA : Fast} (he : EnvR ι M l lA) {r : ARes} {v : AV} (h : vRes r l H = some v) : ∃ a, bRes r lA M = some a ∧ VL M (own ι) ι v a := by
  cases r with
  | tmp t =>
    simp only [vRes, bRes] at h ⊢
    have h1 := he t
    split at h
    · cases h
    rename_i hne
    obtain rfl := Option.some.inj h
    have := h1.not_undef hne
    refine ⟨look lA t, ?_, h1⟩
    split
    · rename_i e
      exact absurd e this
    · rfl
  | cell t g n =>
    simp only [vRes, bRes] at h ⊢
    exact vL_ok s he (o := .load g n (.t t)) rfl h

theorem vResL_ok {ι : VI} {H M : Heap} (s : VS ι H M) {l lA : Fast} (he : EnvR ι M l lA) : ∀ {rs : List ARes} {vs : List AV}, vResL rs l H = some vs → ∃ as, bResL rs lA M = some as ∧ VLL M (own ι) ι vs as
  | [], vs, h => by
    obtain rfl := Option.some.inj h
    exact ⟨[], rfl, by simp [VLL]⟩
  | r :: rs, vs, h => by
    simp only [vResL] at h
    split at h
    · rename_i v vs' h1 h2
      obtain rfl := Option.some.inj h
      obtain ⟨a, g1, g2⟩ := vRes_ok s he h1
      obtain ⟨as, g3, g4⟩ := vResL_ok s he h2
      refine ⟨a :: as, ?_, by simp only [VLL]; exact ⟨g2, g4⟩⟩
      simp only [bResL, g1, g3, Option.bind_some, Option.map_some]
    · cases h

theorem vResults_ok {ι : VI} {H M : Heap} (s : VS ι H M) {l lA : Fast} (he : EnvR ι M l lA) {rs : List ARes} {v : AV} (h : vResults rs l H = some v) : ∃ a, bResults rs lA M = some a ∧ VL M (own ι) ι v a := by
  unfold vResults at h
  obtain ⟨vs, h1, h2⟩ := Option.map_eq_some_iff.1 h
  obtain ⟨as, g1, g2⟩ := vResL_ok s he h1
  unfold bResults
  rw [g1]
  match vs, as, g2 with
  | [], [], g2 =>
    simp only at h2
    subst h2
    exact ⟨_, rfl, VL.unit⟩
  | [x], [y], g2 =>
    simp only at h2
    subst h2
    simp only [VLL] at g2
    exact ⟨_, rfl, g2.1⟩
  | x :: x2 :: xs, y :: y2 :: ys, g2 =>
    simp only at h2
    subst h2
    exact ⟨_, rfl, by simp only [VL]; exact ⟨_, rfl, g2⟩⟩
  | [], _ :: _, g2 => simp [VLL] at g2
  | _ :: _, [], g2 => simp [VLL] at g2
  | [_], _ :: _ :: _, g2 => simp [VLL] at g2
  | _ :: _ :: _, [_], g2 => simp [VLL] at g2

theorem vexit_ok {frozen : Bool} {zs : List Nat} {fr : Fr} {ι : VI} {H M : Heap} (s : VS ι H M) (hm : fr.mark ≤ H.next) (fi : FI fr H) {v a : AV} (hv : VL M (own ι) ι v a) {r : AV × Heap} (h : vexit frozen zs fr v H = some r) :
    ∃ ι', Res fr fr.mark ι H M ι' r.2 M ∧ VL M (own ι') ι' r.1 a := by
  unfold vexit at h
  obtain ⟨ι1, r1, v1⟩ := solV_ok (fr := fr) (zs := zs) s hm hv
  have m1 := Nat.le_trans hm r1.next
  have fi1 := fi.of_guar r1.guar
  simp only at h
  generalize solV zs v H = q0 at *
  cases frozen with
  | true =>
    simp only [if_true] at h
    split at h
    case h_2 => cases h
    rename_i p q h1 h2
    split at h
    case isFalse => cases h
    rename_i h3
    obtain rfl := Option.some.inj h
    obtain ⟨g1, g2⟩ := frozen_ok r1.vs m1 fi1 h1 h2 h3 v1
    exact ⟨_, (r1.weak hm).trans g1 (Nat.le_refl _), g2⟩
  | false =>
    simp only [Bool.false_eq_true, if_false, gc, Option.some.injEq] at h
    subst h
    obtain ⟨h1, h2⟩ := gcIds_ok fr.mark q0.2 (idsOfL [q0.1] ++ fr.tidy)
    obtain ⟨r, hr⟩ := gc_ok r1.vs m1 fi1 _ h1 h2
    exact ⟨_, (r1.weak hm).trans r (Nat.le_refl _), by simpa [renL] using hr _ _ v1⟩

theorem vbody_ok {c : VCalls} {C : ACalls} (hC : VSim c C) {K : Nat} {f : VFunc} (hf : f.code.okc = true) {vs as : List AV} {H M : Heap} {fr : Fr} {ι : VI} (s : VS ι H M) (hm : fr.mark ≤ H.next) (fi : FI fr H) (hv : VLL M (own ι) ι vs as) {r : AV × Heap}
    (h : vbody c K f vs H fr = some r) : ∃ a M' ι', bbody C K f.erase as M = some (a, M') ∧ Res fr fr.mark ι H M ι' r.2 M' ∧ VL M' (own ι') ι' r.1 a := by
  unfold vbody at h
  unfold bbody
  split at h
  case isFalse => cases h
  rename_i hcond
  rw [if_pos (by rw [← hv.length]; exact hcond)]
  have he : EnvR ι M (start 0 (vs ++ List.replicate (f.ntmps - f.nargs) (.tuple []))) (start 0 (as ++ List.replicate (f.ntmps - f.nargs) (.tuple []))) := fun t => by
    rw [look_start, look_start]
    simp only [Nat.zero_le, if_true, Nat.sub_zero]
    have hr : VLL M (own ι) ι (List.replicate (f.ntmps - f.nargs) (.tuple [])) (List.replicate (f.ntmps - f.nargs) (.tuple [])) := VLL.const _ (by
      generalize f.ntmps - f.nargs = k
      induction k with
      | zero => rfl
      | succ k ih => simpa [List.replicate_succ, plainCL, plainC] using ih)
    have := hv.append hr
    generalize vs ++ List.replicate (f.ntmps - f.nargs) (.tuple []) = V at *
    generalize as ++ List.replicate (f.ntmps - f.nargs) (.tuple []) = A at *
    rw [List.getD_eq_getElem?_getD, List.getD_eq_getElem?_getD]
    cases hi : V[t]? with
    | none => simp [VL]
    | some x =>
      obtain ⟨y, hy, hxy⟩ := this.get t x hi
      rw [hy]
      exact hxy
  have fin : ∀ (x : Ex) (l' : Fast) (H' : Heap), (x = .normal ∨ x = .ret) → vexec c K fr f.ntmps f.code (start 0 (vs ++ List.replicate (f.ntmps - f.nargs) (.tuple []))) H = some (x, l', H') → (match vResults f.results l' H' with | some v => vexit f.frozen f.rz fr v H' | none => none) = some r →
      ∃ lA' M' a ι', bexec C K f.ntmps f.code.erase (start 0 (as ++ List.replicate (f.ntmps - f.nargs) (.tuple []))) M = some (x, lA', M') ∧ bResults f.results lA' M' = some a ∧ Res fr fr.mark ι H M ι' r.2 M' ∧ VL M' (own ι') ι' r.1 a := by
    intro x l' H' hx h1 h2
    obtain ⟨lA', M', ι1, g1, g2, g3⟩ := vexec_ok hC f.code hf _ _ _ _ _ _ _ _ s hm fi he h1
    split at h2
    case h_2 => cases h2
    rename_i v hres
    obtain ⟨a, g4, g5⟩ := vResults_ok g2.vs g3 hres
    obtain ⟨ι2, g6, g7⟩ := vexit_ok g2.vs g2.next (fi.of_guar g2.guar) g5 h2
    exact ⟨lA', M', a, ι2, g1, g4, g2.trans g6 (Nat.le_refl _), g7⟩
  split at h
  · rename_i l' H' h1
    obtain ⟨lA', M', a, ι', g1, g2, g3, g4⟩ := fin _ _ _ (.inl rfl) h1 h
    refine ⟨a, M', ι', ?_, g3, g4⟩
    simp only [VFunc.erase]
    rw [g1]
    simp only [g2, Option.map_some]
  · rename_i l' H' h1
    obtain ⟨lA', M', a, ι', g1, g2, g3, g4⟩ := fin _ _ _ (.inr rfl) h1 h
    refine ⟨a, M', ι', ?_, g3, g4⟩
    simp only [VFunc.erase]
    rw [g1]
    simp only [g2, Option.map_some]
  · cases h

theorem VS.below {ι : VI} {H M : Heap} (s : VS ι H M) (T : List Nat) : FI { mark := H.next, tidy := T } H := fun i _ _ x hx => by
  unfold cellsOf at hx
  split at hx
  · rename_i c ro sl hg
    rcases s.blk _ _ hg with ⟨_, ro1, g1⟩ | ⟨j, g1, ⟨c', ro', sl', g2, g3, g4⟩, g5⟩
    · cases g1
      simp [idsOfL] at hx
    · rcases VLL.ids _ _ g4 x hx with ⟨j', h⟩ | h
      · exact (s.lt _ _ h).1
      · exact (s.solt _ h).1
  · simp [idsOfL] at hx

/-- A summary stands for a body. -/
def VSum (g : List AV → Heap → Option (AV × Heap)) (af : AFunc) : Prop :=
  ∀ (C : ACalls) (K : Nat) (fr : Fr) (ι : VI) (H M : Heap) (vs as : List AV) (r : AV × Heap), VS ι H M → fr.mark ≤ H.next → VLL M (own ι) ι vs as → g vs H = some r → NRel fr ι H M r (bbody C K af as M)

/-- What V comes to, the machine comes to. -/
theorem vcall_ok {kn : FuncId} {T : FuncId → Option VFunc} {K : Nat} {G : Sums} {T' : FuncId → Option AFunc} (hkn : ∀ d M, bcall G T' K (d + 1) kn [] M = some (.bool true, M))
    (hT : ∀ f vf, f ≠ kn → T f = some vf → G f = none ∧ T' f = some vf.erase ∧ vf.code.okc = true ∧ ∀ g, vf.sum = some g → VSum g vf.erase) : ∀ d, VSim (vcall kn T K d) (bcall G T' K d)
  | 0 => fun fr f vs H r h => by simp [vcall] at h
  | d + 1 => fun fr f vs H r h ι M as s hm hv => by
    simp only [vcall] at h
    split at h
    · rename_i hf
      subst hf
      split at h
      · obtain rfl := Option.some.inj h
        cases as with
        | cons _ _ => simp [VLL] at hv
        | nil =>
          rw [hkn]
          exact NRel.quiet s (VL.scal rfl)
      · cases h
    · rename_i hf
      split at h
      case h_2 => cases h
      rename_i vf hvf
      obtain ⟨e1, e2, e3, e4⟩ := hT f vf hf hvf
      split at h
      · rename_i g hg
        simp only [bcall, e1, e2]
        exact e4 g hg _ K fr ι H M vs as r s hm hv h
      have body : ∀ (fr : Fr) (vs : List AV) (H : Heap) (r : AV × Heap), vcallB (vcall kn T K d) T K fr f vs H = some r → ∀ (ι : VI) (as : List AV), VS ι H M → fr.mark ≤ H.next → VLL M (own ι) ι vs as → NRel fr ι H M r (bcall G T' K (d + 1) f as M) := by
        intro fr vs H r h ι as s hm hv
        simp only [vcallB, hvf] at h
        generalize (if vf.bare = true then [] else reach H (idsOfL vs)) = tidy at h
        split at h
        case isFalse => cases h
        rename_i hall
        simp only [bcall, e1, e2]
        obtain ⟨a, M', ι', g1, g2, g3⟩ := vbody_ok (vcall_ok hkn hT d) e3 s (Nat.le_refl _) (s.below tidy) hv h
        refine ⟨a, M', ι', g1, ⟨g2.vs, g2.stp, fun i h1 h2 x hx => ?_, g2.next⟩, g3⟩
        refine g2.guar i (by simp only; omega) ?_ x hx
        simp only
        cases hc : tidy.contains i with
        | false => rfl
        | true =>
          rw [List.all_eq_true] at hall
          have := hall i (by simpa using hc)
          rw [h2] at this
          simp at this
          omega
      split at h
      · unfold vfrz at h
        split at h
        case h_2 => cases h
        rename_i A hA
        have hicy := frzL_icy (fun v p a e1 e2 => frz_icy s 5 false v p a e1 e2) vs A as hA hv
        have r0 := s.iced (fr := fr) hicy
        refine NRel.after r0 (body fr A.1 (H.ice A.2) r h _ as r0.vs hm ?_)
        exact frzL_rel (κ1 := ι.ice A.2) (κ2 := ι.ice A.2) (nested := false) (P := fun b => ∀ j, ι b = some j → ¬ own (ι.ice A.2) j)
          (fun v p a e1 e2 e3 e4 => frz_ok s (fun j h => own_ice h) (κ' := ι.ice A.2) 5 false v p a e1 e2 e3 e4) vs A as hA hv (fun b hb j hj => not_own_ice s hb hj) (fun _ i _ => ⟨fun _ h => h, fun h => h⟩)
      · exact body fr vs H r h ι as s hm hv

end Go.Proofs.Ytachollgbplikaa
