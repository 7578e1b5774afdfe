/- V, sixth part: what stays, what is frozen, code and calls: what V comes to, the machine comes to. -/
import Derived.Test.YteibgagdnidojaaAm29
set_option linter.all false
set_option linter.unusedSimpArgs false
namespace Go.Proofs.Yteibgagdnidojaa

theorem ddup_spec : ∀ (l seen : List Nat), (ddup seen l).Nodup ∧ ∀ x, x ∈ ddup seen l → x ∈ l ∧ seen.contains x = false
  | [], seen => by simp [ddup]
  | a :: r, seen => by
    simp only [ddup]
    split
    · obtain ⟨h1, h2⟩ := ddup_spec r seen
      exact ⟨h1, fun x hx => ⟨by simp [(h2 x hx).1], (h2 x hx).2⟩⟩
    · rename_i hs
      obtain ⟨h1, h2⟩ := ddup_spec r (a :: seen)
      refine ⟨List.nodup_cons.2 ⟨fun hm => ?_, h1⟩, fun x hx => ?_⟩
      · have := (h2 a hm).2
        simp at this
      · rcases List.mem_cons.1 hx with rfl | hx
        · exact ⟨by simp, by simpa using hs⟩
        · have := h2 x hx
          refine ⟨by simp [this.1], ?_⟩
          have h3 := this.2
          simp at h3 ⊢
          exact h3.2

theorem ixOf_get : ∀ {p : List Nat} {b k : Nat}, ixOf p b = some k → p[k]? = some b
  | [], b, k, h => by simp [ixOf] at h
  | a :: r, b, k, h => by
    simp only [ixOf] at h
    split at h
    · rename_i e
      obtain rfl := Option.some.inj h
      simp [e]
    · obtain ⟨k', h1, rfl⟩ := Option.map_eq_some_iff.1 h
      simpa using ixOf_get h1

def gcI (ι : VI) (m : Nat) (p : List Nat) : VI := fun i => if i < m then ι i else (p[i - m]?).bind ι

theorem gcI_renId {ι : VI} {m : Nat} {p : List Nat} {b b' : Nat} (h : renId m p b = some b') : gcI ι m p b' = ι b := by
  unfold renId at h
  split at h
  · rename_i hb
    obtain rfl := Option.some.inj h
    simp [gcI, hb]
  · obtain ⟨k, h1, rfl⟩ := Option.map_eq_some_iff.1 h
    simp only [gcI]
    rw [if_neg (by omega), Nat.add_sub_cancel_left, ixOf_get h1]
    rfl

theorem own_gcI {ι : VI} {m : Nat} {p : List Nat} {j : Nat} (h : own (gcI ι m p) j) : own ι j := by
  obtain ⟨i, hi⟩ := h
  simp only [gcI] at hi
  split at hi
  · exact ⟨i, hi⟩
  · obtain ⟨b, _, h2⟩ := Option.bind_eq_some_iff.1 hi
    exact ⟨b, h2⟩

mutual
theorem VL.ren {M : Heap} {O O' : Nat → Prop} (hk : Keeps M O M O') {ι : VI} {m : Nat} {p : List Nat} : ∀ (v a : AV), VL M O ι v a → VL M O' (gcI ι m p) (ren m p v) a
  | .undef, _, _ => by simp [Proofs.Yteibgagdnidojaa.ren, VL]
  | .bool _, _, e => by simpa [Proofs.Yteibgagdnidojaa.ren, VL] using e
  | .int _ _, _, e => by simpa [Proofs.Yteibgagdnidojaa.ren, VL] using e
  | .str _, _, e => by simpa [Proofs.Yteibgagdnidojaa.ren, VL] using e
  | .ptr none, _, e => by simpa [Proofs.Yteibgagdnidojaa.ren, VL] using e
  | .ptr (some q), _, e => by
    simp only [VL] at e
    obtain ⟨j, h1, rfl⟩ := e
    simp only [Proofs.Yteibgagdnidojaa.ren]
    split
    · rename_i b hb
      simp only [VL]
      exact ⟨j, by rw [gcI_renId hb]; exact h1, rfl⟩
    · simp [VL]
  | .slice none _ _ _ _, _, e => by simpa [Proofs.Yteibgagdnidojaa.ren, VL] using e
  | .slice (some q) _ _ _ _, _, e => by
    simp only [VL] at e
    obtain ⟨j, h1, rfl⟩ := e
    simp only [Proofs.Yteibgagdnidojaa.ren]
    split
    · rename_i b hb
      simp only [VL]
      exact ⟨j, by rw [gcI_renId hb]; exact h1, rfl⟩
    · simp [VL]
  | .map none, _, e => by simpa [Proofs.Yteibgagdnidojaa.ren, VL] using e
  | .map (some r), _, e => by
    simp only [VL] at e
    obtain ⟨j, h1, rfl⟩ := e
    simp only [Proofs.Yteibgagdnidojaa.ren]
    split
    · rename_i b hb
      simp only [VL]
      exact ⟨j, by rw [gcI_renId hb]; exact h1, rfl⟩
    · simp [VL]
  | .func f cs, _, e => by
    simp only [VL] at e
    obtain ⟨cs', rfl, h⟩ := e
    simp only [Proofs.Yteibgagdnidojaa.ren, VL]
    exact ⟨cs', rfl, VLL.ren hk cs cs' h⟩
  | .nilFunc, _, e => by simpa [Proofs.Yteibgagdnidojaa.ren, VL] using e
  | .agg cs, _, e => by
    simp only [VL] at e
    obtain ⟨cs', rfl, h⟩ := e
    simp only [Proofs.Yteibgagdnidojaa.ren, VL]
    exact ⟨cs', rfl, VLL.ren hk cs cs' h⟩
  | .tuple cs, _, e => by
    simp only [VL] at e
    obtain ⟨cs', rfl, h⟩ := e
    simp only [Proofs.Yteibgagdnidojaa.ren, VL]
    exact ⟨cs', rfl, VLL.ren hk cs cs' h⟩
  | .list sz len cs ex, a, e => by
    simp only [Proofs.Yteibgagdnidojaa.ren]
    exact VL.mono hk ι _ _ a (fun i j hi => by simp [idsOf] at hi) e
  | .elem cs, a, e => by
    simp only [Proofs.Yteibgagdnidojaa.ren]
    exact VL.mono hk ι _ _ a (fun i j hi => by simp [idsOf] at hi) e
theorem VLL.ren {M : Heap} {O O' : Nat → Prop} (hk : Keeps M O M O') {ι : VI} {m : Nat} {p : List Nat} : ∀ (l r : List AV), VLL M O ι l r → VLL M O' (gcI ι m p) (renL m p l) r
  | [], [], _ => by simp [renL, VLL]
  | v :: l, a :: r, e => by
    simp only [VLL] at e
    simp only [renL, VLL]
    exact ⟨VL.ren hk v a e.1, VLL.ren hk l r e.2⟩
  | [], _ :: _, e => by simp [VLL] at e
  | _ :: _, [], e => by simp [VLL] at e
end

/-! ### What stays -/

theorem gcTidy_skip {m : Nat} {p : List Nat} {H : Heap} {i : Nat} : ∀ (T : List Nat) (X : Heap), T.contains i = false → (gcTidy m p H T X).get i = X.get i
  | [], X, _ => rfl
  | b :: r, X, h => by
    simp only [List.contains_cons, Bool.or_eq_false_iff] at h
    have hne : i ≠ b := by simpa using h.1
    simp only [gcTidy]
    rw [gcTidy_skip r _ h.2]
    split
    · split
      · simp [Heap.put, hne]
      · rfl
    · rfl

theorem gcTidy_next {m : Nat} {p : List Nat} {H : Heap} : ∀ (T : List Nat) (X : Heap), (gcTidy m p H T X).next = X.next
  | [], X => rfl
  | b :: r, X => by
    simp only [gcTidy]
    rw [gcTidy_next r]
    split
    · split <;> rfl
    · rfl

theorem gcTidy_get {m : Nat} {p : List Nat} {H : Heap} {i : Nat} {y : Blk} : ∀ (T : List Nat) (X : Heap), (gcTidy m p H T X).get i = some y →
    (∃ c ro sl, H.get i = some (.cells c ro sl) ∧ y = .cells (renL m p c) ro sl ∧ i < m) ∨ (X.get i = some y ∧ (T.contains i = true → i < m → ∀ c ro sl, H.get i ≠ some (.cells c ro sl)))
  | [], X, h => .inr ⟨h, by simp⟩
  | b :: r, X, h => by
    simp only [gcTidy] at h
    rcases gcTidy_get r _ h with h | ⟨h1, h2⟩
    · exact .inl h
    · by_cases hb : b < m
      · rw [if_pos hb] at h1
        split at h1
        · rename_i c ro sl hg
          simp only [Heap.put] at h1
          split at h1
          · rename_i e
            subst e
            exact .inl ⟨c, ro, sl, hg, (Option.some.inj h1).symm, hb⟩
          · rename_i e
            refine .inr ⟨h1, fun ht => h2 ?_⟩
            simp only [List.contains_cons, Bool.or_eq_true] at ht
            exact ht.resolve_left (by simpa using e)
        · rename_i hn
          refine .inr ⟨h1, fun ht hi c ro sl hg => ?_⟩
          simp only [List.contains_cons, Bool.or_eq_true] at ht
          rcases ht with ht | ht
          · have : i = b := by simpa using ht
            subst this
            exact hn c ro sl hg
          · exact h2 ht hi c ro sl hg
      · rw [if_neg hb] at h1
        refine .inr ⟨h1, fun ht hi => ?_⟩
        simp only [List.contains_cons, Bool.or_eq_true] at ht
        rcases ht with ht | ht
        · have : i = b := by simpa using ht
          omega
        · exact h2 ht hi

theorem gcPush_next {m : Nat} {p : List Nat} {H : Heap} : ∀ (q : List Nat) (X : Heap), (gcPush m p H q X).next = X.next + q.length
  | [], X => rfl
  | b :: r, X => by
    simp only [gcPush]
    rw [gcPush_next r]
    split <;> simp [Heap.push, Heap.skip] <;> omega

theorem gcPush_old {m : Nat} {p : List Nat} {H : Heap} {i : Nat} : ∀ (q : List Nat) (X : Heap), i < X.next → (gcPush m p H q X).get i = X.get i
  | [], X, _ => rfl
  | b :: r, X, h => by
    simp only [gcPush]
    rw [gcPush_old r]
    · split
      · simp [Heap.push, Nat.ne_of_lt h]
      · rfl
    · split <;> simp [Heap.push, Heap.skip] <;> omega

theorem gcPush_get {m : Nat} {p : List Nat} {H : Heap} {i : Nat} {y : Blk} : ∀ (q : List Nat) (X : Heap), X.Ok → X.next ≤ i → (gcPush m p H q X).get i = some y →
    ∃ b c ro sl, q[i - X.next]? = some b ∧ H.get b = some (.cells c ro sl) ∧ y = .cells (renL m p c) ro sl
  | [], X, ok, h, e => by
    simp only [gcPush] at e
    rw [ok i h] at e
    cases e
  | b :: r, X, ok, h, e => by
    simp only [gcPush] at e
    rcases Nat.eq_or_lt_of_le h with h | h
    · subst h
      rw [gcPush_old r] at e
      · split at e
        · rename_i c ro sl hg
          simp [Heap.push] at e
          exact ⟨b, c, ro, sl, by simp, hg, e.symm⟩
        · simp only [Heap.skip] at e
          rw [ok _ (Nat.le_refl _)] at e
          cases e
      · split <;> simp [Heap.push, Heap.skip]
    · have hX : ∀ X' : Heap, X'.next = X.next + 1 → X'.Ok → (gcPush m p H r X').get i = some y → ∃ b' c ro sl, (b :: r)[i - X.next]? = some b' ∧ H.get b' = some (.cells c ro sl) ∧ y = .cells (renL m p c) ro sl := by
        intro X' hn ok' e'
        obtain ⟨b', c, ro, sl, h1, h2, h3⟩ := gcPush_get r X' ok' (by omega) e'
        refine ⟨b', c, ro, sl, ?_, h2, h3⟩
        rw [show i - X.next = (i - X'.next) + 1 from by omega, List.getElem?_cons_succ]
        exact h1
      split at e
      · exact hX _ rfl (fun j hj => by
          simp only [Heap.push] at hj ⊢
          rw [if_neg (by omega)]
          exact ok j (by omega)) e
      · exact hX X.skip rfl (fun j hj => ok j (by simp only [Heap.skip] at hj; omega)) e

/-- Blocks that are older than the frame name nothing younger, but those to be tidied. -/
def FI (fr : Fr) (H : Heap) : Prop := ∀ i, i < fr.mark → fr.tidy.contains i = false → ∀ x, x ∈ idsOfL (cellsOf H i) → x < fr.mark

theorem FI.of_guar {fr : Fr} {H H' : Heap} (h : FI fr H) (g : Guar fr H H') : FI fr H' := fun i h1 h2 x hx => h i h1 h2 x (g i h1 h2 x hx)

theorem Heap.cut_ok (M : Heap) (n : Nat) : (M.cut n).Ok := fun b hb => by
  simp only [Heap.cut] at hb ⊢
  rw [if_neg (by omega)]

theorem gc_ok {fr : Fr} {ι : VI} {H M : Heap} (s : VS ι H M) (hm : fr.mark ≤ H.next) (fi : FI fr H) (p : List Nat) (hnd : p.Nodup) (hp : ∀ b, b ∈ p → fr.mark ≤ b) :
    Res fr fr.mark ι H M (gcI ι fr.mark p) (gcPush fr.mark p H p (gcTidy fr.mark p H fr.tidy (H.cut fr.mark))) M ∧
      ∀ v a, VL M (own ι) ι v a → VL M (own (gcI ι fr.mark p)) (gcI ι fr.mark p) (ren fr.mark p v) a := by
  have hk : Keeps M (own ι) M (own (gcI ι fr.mark p)) := ⟨Nat.le_refl _, fun b _ ho => ⟨rfl, fun h => ho (own_gcI h)⟩⟩
  have hnx : (gcTidy fr.mark p H fr.tidy (H.cut fr.mark)).next = fr.mark := gcTidy_next _ _
  have hok : (gcTidy fr.mark p H fr.tidy (H.cut fr.mark)).Ok := fun b hb => by
    cases hg : (gcTidy fr.mark p H fr.tidy (H.cut fr.mark)).get b with
    | none => rfl
    | some y =>
      rcases gcTidy_get _ _ hg with ⟨_, _, _, _, _, h⟩ | ⟨h, _⟩
      · omega
      · rw [Heap.cut_ok H fr.mark b (by rw [hnx] at hb; exact hb)] at h
        cases h
  have hsame : ∀ i, i < fr.mark → fr.tidy.contains i = false → (gcPush fr.mark p H p (gcTidy fr.mark p H fr.tidy (H.cut fr.mark))).get i = H.get i := fun i h1 h2 => by
    rw [gcPush_old _ _ (by rw [hnx]; exact h1), gcTidy_skip _ _ h2]
    simp [Heap.cut, h1]
  refine ⟨⟨⟨fun i j h => ?_, fun i i' j h h' => ?_, fun i y hy => ?_, fun i hi => ?_, s.okM⟩, ⟨hk, fun i hi => by simp [gcI, hi]⟩, fun i h1 h2 x hx => ?_, ?_⟩, fun v a h => VL.ren hk v a h⟩
  · rw [gcPush_next, hnx]
    simp only [gcI] at h
    split at h
    · have := s.lt i j h
      omega
    · obtain ⟨b, h1, h2⟩ := Option.bind_eq_some_iff.1 h
      have := (List.getElem?_eq_some_iff.1 h1).1
      have := s.lt b j h2
      omega
  · simp only [gcI] at h h'
    split at h <;> split at h'
    · exact s.inj _ _ _ h h'
    · obtain ⟨b, h1, h2⟩ := Option.bind_eq_some_iff.1 h'
      have := s.inj _ _ _ h h2
      have := hp b (List.mem_of_getElem? h1)
      omega
    · obtain ⟨b, h1, h2⟩ := Option.bind_eq_some_iff.1 h
      have := s.inj _ _ _ h2 h'
      have := hp b (List.mem_of_getElem? h1)
      omega
    · obtain ⟨b, h1, h2⟩ := Option.bind_eq_some_iff.1 h
      obtain ⟨b', h1', h2'⟩ := Option.bind_eq_some_iff.1 h'
      obtain rfl := s.inj _ _ _ h2 h2'
      have := (List.getElem?_inj (List.getElem?_eq_some_iff.1 h1).1 hnd).1 (h1.trans h1'.symm)
      omega
  · rcases Nat.lt_or_ge i fr.mark with hi | hi
    · rw [gcPush_old _ _ (by rw [hnx]; exact hi)] at hy
      rcases gcTidy_get _ _ hy with ⟨c, ro, sl, h1, rfl, _⟩ | ⟨h1, h2⟩
      · obtain ⟨j, g1, c', g2, g3⟩ := s.blk _ _ h1
        exact ⟨j, by simp [gcI, hi, g1], c', g2, VLL.ren hk _ _ g3⟩
      · simp only [Heap.cut, if_pos hi] at h1
        obtain ⟨j, g1, g2⟩ := s.blk _ _ h1
        refine ⟨j, by simp [gcI, hi, g1], ?_⟩
        cases y with
        | map es => exact g2.elim
        | cells c ro sl =>
          have hn : fr.tidy.contains i = false := by
            cases hc : fr.tidy.contains i with
            | false => rfl
            | true => exact absurd h1 (h2 hc hi c ro sl)
          obtain ⟨c', g2, g3⟩ := g2
          refine ⟨c', g2, VLL.mono hk _ _ _ _ (fun x j' hx hxj => ?_) g3⟩
          have : x < fr.mark := fi i hi hn x (by unfold cellsOf; rw [h1]; exact hx)
          simp [gcI, this, hxj]
    · obtain ⟨b, c, ro, sl, h1, h2, rfl⟩ := gcPush_get _ _ hok (by rw [hnx]; exact hi) hy
      rw [hnx] at h1
      obtain ⟨j, g1, c', g2, g3⟩ := s.blk _ _ h2
      refine ⟨j, ?_, c', g2, VLL.ren hk _ _ g3⟩
      simp only [gcI]
      rw [if_neg (by omega), h1]
      exact g1
  · rw [gcPush_next, hnx] at hi
    cases hg : (gcPush fr.mark p H p (gcTidy fr.mark p H fr.tidy (H.cut fr.mark))).get i with
    | none => rfl
    | some y =>
      obtain ⟨b, c, ro, sl, h1, h2, rfl⟩ := gcPush_get _ _ hok (by rw [hnx]; omega) hg
      have := (List.getElem?_eq_some_iff.1 h1).1
      rw [hnx] at this
      omega
  · unfold cellsOf at hx ⊢
    rwa [hsame i h1 h2] at hx
  · rw [gcPush_next, hnx]
    omega

theorem gcIds_ok (m : Nat) (H : Heap) (roots : List Nat) : (gcIds m H roots).Nodup ∧ ∀ b, b ∈ gcIds m H roots → m ≤ b := by
  obtain ⟨h1, h2⟩ := ddup_spec ((reach H roots).filter fun b => decide (m ≤ b) && (H.get b).isSome) []
  refine ⟨h1, fun b hb => ?_⟩
  have := (h2 b hb).1
  rw [List.mem_filter] at this
  have := this.2
  simp only [Bool.and_eq_true, decide_eq_true_eq] at this
  exact this.1

theorem look_zipKeep {m : Nat} {p : List Nat} {l : Fast} (t : Nat) : ∀ keep : List Nat, look (zipKeep keep (renL m p (keep.map (look l)))) t = if keep.contains t then ren m p (look l t) else .undef
  | [] => by simp [zipKeep, renL, look]
  | k :: r => by
    simp only [List.map_cons, renL, zipKeep]
    rw [look_cons', look_zipKeep t r]
    by_cases h : k = t
    · subst h
      simp
    · have : (t == k) = false := by simpa using fun e => h e.symm
      rw [if_neg h]
      simp [List.contains_cons, this, show ¬ t = k from fun e => h e.symm]
where
  look_cons' {u t : Nat} {v : AV} {r : Fast} : look ((u, v) :: r) t = if u = t then v else look r t := by
    simp only [look]
    cases hb : Nat.beq u t with
    | true => rw [if_pos (Nat.eq_of_beq_eq_true hb)]
    | false => rw [if_neg (fun h => by subst h; rw [Nat.beq_refl] at hb; cases hb)]

theorem look_bkeep {l : Fast} (t : Nat) : ∀ keep : List Nat, look (bkeep l keep) t = if keep.contains t then look l t else .undef
  | [] => by simp [bkeep, look]
  | k :: r => by
    simp only [bkeep]
    rw [look_zipKeep.look_cons', look_bkeep t r]
    by_cases h : k = t
    · subst h
      simp
    · have : (t == k) = false := by simpa using fun e => h e.symm
      rw [if_neg h]
      simp [List.contains_cons, this, show ¬ t = k from fun e => h e.symm]

theorem vkeep_ok {g : Bool} {fr : Fr} {ι : VI} {H M : Heap} (s : VS ι H M) (hm : fr.mark ≤ H.next) (fi : FI fr H) {l lA : Fast} (he : EnvR ι M l lA) (keep : List Nat) :
    ∃ ι', Res fr fr.mark ι H M ι' (vkeep g fr l keep H).2 M ∧ EnvR ι' M (vkeep g fr l keep H).1 lA ∧ EnvR ι' M (vkeep g fr l keep H).1 (bkeep lA keep) := by
  unfold vkeep
  cases g with
  | false =>
    simp only [Bool.false_eq_true, if_false]
    refine ⟨ι, (Res.refl s).weak hm, fun t => ?_, fun t => ?_⟩
    · rw [look_bkeep]
      split
      · exact he t
      · simp [VL]
    · rw [look_bkeep, look_bkeep]
      split
      · exact he t
      · simp [VL]
  | true =>
    simp only [if_true, gc]
    obtain ⟨h1, h2⟩ := gcIds_ok fr.mark H (idsOfL (keep.map (look l)) ++ fr.tidy)
    obtain ⟨r, hv⟩ := gc_ok s hm fi _ h1 h2
    refine ⟨_, r, fun t => ?_, fun t => ?_⟩
    · rw [look_zipKeep]
      split
      · exact hv _ _ (he t)
      · simp [VL]
    · rw [look_zipKeep, look_bkeep]
      split
      · exact hv _ _ (he t)
      · simp [VL]

/-! ### Freezing -/

theorem idsOf_flat {v : AV} (h : v.flat = true) : idsOf v = [] := by
  cases v with
  | ptr p => cases p <;> simp [AV.flat] at h <;> simp [idsOf]
  | slice p => cases p <;> simp [AV.flat] at h <;> simp [idsOf]
  | map p => cases p <;> simp [AV.flat] at h <;> simp [idsOf]
  | func f cs => cases cs <;> simp [AV.flat] at h <;> simp [idsOf, idsOfL]
  | agg cs => simp [AV.flat] at h
  | tuple cs => simp [AV.flat] at h
  | _ => simp [idsOf]

def lowI (ι : VI) (m : Nat) : VI := fun i => if i < m then ι i else none

def nestI (nested : Bool) (κ : VI) : VI := if nested then fun _ => none else κ

theorem fzL_rel {M : Heap} {O O' : Nat → Prop} {κ κ' : VI} {g : AV → Option AV} (hg : ∀ v v' a, g v = some v' → VL M O κ v a → VL M O' κ' v' a) : ∀ (l l' r : List AV), fzL g l = some l' → VLL M O κ l r → VLL M O' κ' l' r
  | [], l', r, h, e => by
    obtain rfl := Option.some.inj h
    cases r with
    | nil => simp [VLL]
    | cons _ _ => simp [VLL] at e
  | v :: l, l', r, h, e => by
    cases r with
    | nil => simp [VLL] at e
    | cons a r =>
      simp only [VLL] at e
      simp only [fzL] at h
      split at h
      · rename_i v' l'' h1 h2
        obtain rfl := Option.some.inj h
        simp only [VLL]
        exact ⟨hg v v' a h1 e.1, fzL_rel hg l l'' r h2 e.2⟩
      · cases h

theorem fz_ok {ι : VI} {H M : Heap} (s : VS ι H M) {m : Nat} : ∀ (k : Nat) (nested : Bool) (v v' a : AV), fz H m k nested v = some v' → VL M (own ι) ι v a → VL M (own (lowI ι m)) (nestI nested (lowI ι m)) v' a := by
  have hk : Keeps M (own ι) M (own (lowI ι m)) := ⟨Nat.le_refl _, fun b _ ho => ⟨rfl, fun ⟨i, hi⟩ => ho ⟨i, by
    simp only [lowI] at hi
    split at hi
    · exact hi
    · cases hi⟩⟩⟩
  have flatc : ∀ (nested : Bool) (v a : AV), v.flat = true → VL M (own ι) ι v a → VL M (own (lowI ι m)) (nestI nested (lowI ι m)) v a := fun nested v a hf h =>
    VL.mono hk _ _ _ _ (fun i j hi => by rw [idsOf_flat hf] at hi; cases hi) h
  have top : ∀ (b j : Nat), b < m → ι b = some j → nestI false (lowI ι m) b = some j := fun b j hb hj => by simp [nestI, lowI, hb, hj]
  intro k
  induction k with
  | zero =>
    intro nested v v' a h e
    simp only [fz] at h
    split at h
    · rename_i hf
      obtain rfl := Option.some.inj h
      exact flatc nested v a hf e
    · cases h
  | succ k ih =>
    intro nested v v' a h e
    cases v with
    | slice p sz len cap ex =>
      cases p with
      | none =>
        simp only [fz] at h
        split at h
        · rename_i hz
          obtain ⟨rfl, rfl, rfl⟩ := hz
          obtain rfl := Option.some.inj h
          simp only [VL] at e ⊢
          exact .inl ⟨trivial, trivial, e⟩
        · obtain rfl := Option.some.inj h
          exact flatc nested _ a rfl e
      | some q =>
        simp only [fz] at h
        split at h
        · rename_i hq
          split at h
          · cases h
          rename_i hn
          obtain rfl := Option.some.inj h
          simp only [Bool.not_eq_true] at hn
          subst hn
          simp only [VL] at e ⊢
          obtain ⟨j, h1, rfl⟩ := e
          exact ⟨j, top _ _ hq h1, rfl⟩
        · rename_i hq
          simp only [VL] at e
          obtain ⟨j, h1, rfl⟩ := e
          split at h
          · rename_i hl
            subst hl
            obtain rfl := Option.some.inj h
            simp only [VL]
            refine .inr ⟨j, q.2, cap, ex, rfl, Nat.zero_le _, fun he => ?_, by simp, fun h => absurd rfl h⟩
            simp only [Bool.and_eq_true, beq_iff_eq] at he
            exact he
          · rename_i hl
            split at h
            · cases h
            rename_i hcap
            split at h
            case h_2 => cases h
            rename_i cs hr
            obtain ⟨cs2, h2, rfl⟩ := Option.map_eq_some_iff.1 h
            obtain ⟨cs', h3, h4⟩ := s.read h1 hr
            have h5 := fzL_rel (fun v v' a => ih true v v' a) _ _ _ h2 h4
            simp only [nestI, if_true] at h5
            simp only [VL]
            unfold Heap.read at h3
            split at h3
            case h_2 => cases h3
            rename_i c ro sl hg
            split at h3
            case isFalse => cases h3
            rename_i hle
            obtain rfl := Option.some.inj h3
            refine .inr ⟨j, q.2, cap, ex, rfl, by omega, fun he => ?_, ?_, fun _ => ⟨c, ro, sl, hg, ?_, (s.lt _ _ h1).2, hle, h5⟩⟩
            · simp only [Bool.and_eq_true, beq_iff_eq] at he
              exact he
            · have := h5.length
              rw [List.length_take, List.length_drop] at this
              omega
            · rintro ⟨i, hi⟩
              simp only [lowI] at hi
              split at hi
              · have := s.inj _ _ _ hi h1
                omega
              · cases hi
    | ptr p =>
      cases p with
      | none => simp only [fz, Option.some.injEq] at h; subst h; exact flatc nested _ a rfl e
      | some q =>
        simp only [fz] at h
        split at h
        case isFalse => cases h
        rename_i hq
        obtain rfl := Option.some.inj h
        simp only [Bool.and_eq_true, decide_eq_true_eq, Bool.not_eq_true'] at hq
        obtain ⟨hq, rfl⟩ := hq
        simp only [VL] at e ⊢
        obtain ⟨j, h1, rfl⟩ := e
        exact ⟨j, top _ _ hq h1, rfl⟩
    | map p =>
      cases p with
      | none => simp only [fz, Option.some.injEq] at h; subst h; exact flatc nested _ a rfl e
      | some q =>
        simp only [fz] at h
        split at h
        case isFalse => cases h
        rename_i hq
        obtain rfl := Option.some.inj h
        simp only [Bool.and_eq_true, decide_eq_true_eq, Bool.not_eq_true'] at hq
        obtain ⟨hq, rfl⟩ := hq
        simp only [VL] at e ⊢
        obtain ⟨j, h1, rfl⟩ := e
        exact ⟨j, top _ _ hq h1, rfl⟩
    | func f cs =>
      simp only [fz] at h
      obtain ⟨cs2, h2, rfl⟩ := Option.map_eq_some_iff.1 h
      simp only [VL] at e ⊢
      obtain ⟨cs', rfl, h4⟩ := e
      exact ⟨cs', rfl, fzL_rel (fun v v' a => ih nested v v' a) _ _ _ h2 h4⟩
    | agg cs =>
      simp only [fz] at h
      obtain ⟨cs2, h2, rfl⟩ := Option.map_eq_some_iff.1 h
      simp only [VL] at e ⊢
      obtain ⟨cs', rfl, h4⟩ := e
      exact ⟨cs', rfl, fzL_rel (fun v v' a => ih nested v v' a) _ _ _ h2 h4⟩
    | tuple cs =>
      simp only [fz] at h
      obtain ⟨cs2, h2, rfl⟩ := Option.map_eq_some_iff.1 h
      simp only [VL] at e ⊢
      obtain ⟨cs', rfl, h4⟩ := e
      exact ⟨cs', rfl, fzL_rel (fun v v' a => ih nested v v' a) _ _ _ h2 h4⟩
    | _ =>
      simp only [fz, Option.some.injEq] at h
      subst h
      exact flatc nested _ a rfl e

theorem fzTidy_next {H : Heap} {m : Nat} : ∀ (T : List Nat) (X X' : Heap), fzTidy H m T X = some X' → X'.next = X.next
  | [], X, X', h => by obtain rfl := Option.some.inj h; rfl
  | b :: r, X, X', h => by
    simp only [fzTidy] at h
    split at h
    · split at h
      · split at h
        · rw [fzTidy_next r _ _ h]; rfl
        · cases h
      · exact fzTidy_next r _ _ h
    · exact fzTidy_next r _ _ h

theorem fzTidy_skip {H : Heap} {m i : Nat} : ∀ (T : List Nat) (X X' : Heap), fzTidy H m T X = some X' → T.contains i = false → X'.get i = X.get i
  | [], X, X', h, _ => by obtain rfl := Option.some.inj h; rfl
  | b :: r, X, X', h, hc => by
    simp only [List.contains_cons, Bool.or_eq_false_iff] at hc
    have hne : i ≠ b := by simpa using hc.1
    simp only [fzTidy] at h
    split at h
    · split at h
      · split at h
        · rw [fzTidy_skip r _ _ h hc.2]; simp [Heap.put, hne]
        · cases h
      · exact fzTidy_skip r _ _ h hc.2
    · exact fzTidy_skip r _ _ h hc.2

theorem fzTidy_get {H : Heap} {m i : Nat} {y : Blk} : ∀ (T : List Nat) (X X' : Heap), fzTidy H m T X = some X' → X'.get i = some y →
    (∃ c c' ro sl, H.get i = some (.cells c ro sl) ∧ fzL (fz H m 5 false) c = some c' ∧ y = .cells c' ro sl ∧ i < m) ∨ (X.get i = some y ∧ (T.contains i = true → i < m → ∀ c ro sl, H.get i ≠ some (.cells c ro sl)))
  | [], X, X', h, hy => by obtain rfl := Option.some.inj h; exact .inr ⟨hy, by simp⟩
  | b :: r, X, X', h, hy => by
    simp only [fzTidy] at h
    by_cases hb : b < m
    · rw [if_pos hb] at h
      split at h
      · rename_i c ro sl hg
        split at h
        case h_2 => cases h
        rename_i c' hc'
        rcases fzTidy_get r _ _ h hy with h | ⟨h1, h2⟩
        · exact .inl h
        · simp only [Heap.put] at h1
          split at h1
          · rename_i e
            subst e
            exact .inl ⟨c, c', ro, sl, hg, hc', (Option.some.inj h1).symm, hb⟩
          · rename_i e
            refine .inr ⟨h1, fun ht => h2 ?_⟩
            simp only [List.contains_cons, Bool.or_eq_true] at ht
            exact ht.resolve_left (by simpa using e)
      · rename_i hn
        rcases fzTidy_get r _ _ h hy with h | ⟨h1, h2⟩
        · exact .inl h
        · refine .inr ⟨h1, fun ht hi c ro sl hg => ?_⟩
          simp only [List.contains_cons, Bool.or_eq_true] at ht
          rcases ht with ht | ht
          · have : i = b := by simpa using ht
            subst this
            exact hn c ro sl hg
          · exact h2 ht hi c ro sl hg
    · rw [if_neg hb] at h
      rcases fzTidy_get r _ _ h hy with h | ⟨h1, h2⟩
      · exact .inl h
      · refine .inr ⟨h1, fun ht hi => ?_⟩
        simp only [List.contains_cons, Bool.or_eq_true] at ht
        rcases ht with ht | ht
        · have : i = b := by simpa using ht
          omega
        · exact h2 ht hi

theorem frozen_ok {fr : Fr} {ι : VI} {H M : Heap} (s : VS ι H M) (hm : fr.mark ≤ H.next) (fi : FI fr H) {v v' a : AV} {X : Heap} (h1 : fz H fr.mark 5 false v = some v') (h2 : fzTidy H fr.mark fr.tidy (H.cut fr.mark) = some X) (hv : VL M (own ι) ι v a) :
    Res fr fr.mark ι H M (lowI ι fr.mark) X M ∧ VL M (own (lowI ι fr.mark)) (lowI ι fr.mark) v' a := by
  have hk : Keeps M (own ι) M (own (lowI ι fr.mark)) := ⟨Nat.le_refl _, fun b _ ho => ⟨rfl, fun ⟨i, hi⟩ => ho ⟨i, by
    simp only [lowI] at hi
    split at hi
    · exact hi
    · cases hi⟩⟩⟩
  have hnx : X.next = fr.mark := fzTidy_next _ _ _ h2
  refine ⟨⟨⟨fun i j h => ?_, fun i i' j h h' => ?_, fun i y hy => ?_, fun i hi => ?_, s.okM⟩, ⟨hk, fun i hi => by simp [lowI, hi]⟩, fun i g1 g2 x hx => ?_, by omega⟩, fz_ok s 5 false v v' a h1 hv⟩
  · simp only [lowI] at h
    split at h
    · have := s.lt i j h
      omega
    · cases h
  · simp only [lowI] at h h'
    split at h <;> split at h'
    · exact s.inj _ _ _ h h'
    · cases h'
    · cases h
    · cases h
  · rcases fzTidy_get _ _ _ h2 hy with ⟨c, c', ro, sl, e1, e2, rfl, hi⟩ | ⟨e1, e2⟩
    · obtain ⟨j, g1, c2, g2, g3⟩ := s.blk _ _ e1
      exact ⟨j, by simp [lowI, hi, g1], c2, g2, fzL_rel (fun v v' a => fz_ok s 5 false v v' a) _ _ _ e2 g3⟩
    · simp only [Heap.cut] at e1
      split at e1
      case isFalse => cases e1
      rename_i hi
      obtain ⟨j, g1, g2⟩ := s.blk _ _ e1
      refine ⟨j, by simp [lowI, hi, g1], ?_⟩
      cases y with
      | map es => exact g2.elim
      | cells c ro sl =>
        have hn : fr.tidy.contains i = false := by
          cases hc : fr.tidy.contains i with
          | false => rfl
          | true => exact absurd e1 (e2 hc hi c ro sl)
        obtain ⟨c', g2, g3⟩ := g2
        refine ⟨c', g2, VLL.mono hk _ _ _ _ (fun x j' hx hxj => ?_) g3⟩
        have : x < fr.mark := fi i hi hn x (by unfold cellsOf; rw [e1]; exact hx)
        simp [lowI, this, hxj]
  · cases hg : X.get i with
    | none => rfl
    | some y =>
      rcases fzTidy_get _ _ _ h2 hg with ⟨_, _, _, _, _, _, _, hlt⟩ | ⟨e1, _⟩
      · omega
      · rw [Heap.cut_ok H fr.mark i (by simp only [Heap.cut]; omega)] at e1
        cases e1
  · unfold cellsOf at hx ⊢
    rw [fzTidy_skip _ _ _ h2 g2] at hx
    simpa [Heap.cut, g1] using hx

/-! ### Code -/

def BodyR (fr : Fr) (body bodyA : Fast → Heap → BOut) : Prop := ∀ (l lA : Fast) (H M : Heap) (ι : VI) (x : Ex) (l' : Fast) (H' : Heap), VS ι H M → fr.mark ≤ H.next → FI fr H → EnvR ι M l lA → body l H = some (x, l', H') →
  ∃ lA' M' ι', bodyA lA M = some (x, lA', M') ∧ Res fr fr.mark ι H M ι' H' M' ∧ EnvR ι' M' l' lA'

theorem vloop_ok {fr : Fr} {body bodyA : Fast → Heap → BOut} (hb : BodyR fr body bodyA) (g : Bool) (keep out : List Nat) : ∀ k, BodyR fr (vloop body g fr keep out k) (bloop bodyA keep k)
  | 0 => fun l lA H M ι x l' H' _ _ _ _ h => by simp [vloop] at h
  | k + 1 => fun l lA H M ι x l' H' s hm fi he h => by
    simp only [vloop] at h
    simp only [bloop]
    obtain ⟨ι1, r1, _, e1⟩ := vkeep_ok (g := g) s hm fi he keep
    split at h
    · rename_i l2 H2 h2
      obtain ⟨lA2, M2, ι2, g1, g2, g3⟩ := hb _ _ _ _ _ _ _ _ r1.vs r1.next (fi.of_guar r1.guar) e1 h2
      rw [g1]
      simp only
      obtain ⟨lA', M', ι', q1, q2, q3⟩ := vloop_ok hb g keep out k _ _ _ _ _ _ _ _ g2.vs g2.next ((fi.of_guar r1.guar).of_guar g2.guar) g3 h
      exact ⟨lA', M', ι', q1, (r1.trans g2 (Nat.le_refl _)).trans q2 (Nat.le_refl _), q3⟩
    · rename_i x2 l2 H2 hne h2
      obtain ⟨lA2, M2, ι2, g1, g2, g3⟩ := hb _ _ _ _ _ _ _ _ r1.vs r1.next (fi.of_guar r1.guar) e1 h2
      simp only [Option.some.injEq, Prod.mk.injEq] at h
      obtain ⟨rfl, rfl, rfl⟩ := h
      obtain ⟨ι3, r3, e3, _⟩ := vkeep_ok (g := g) g2.vs g2.next ((fi.of_guar r1.guar).of_guar g2.guar) g3 out
      refine ⟨lA2, M2, ι3, ?_, (r1.trans g2 (Nat.le_refl _)).trans r3 (Nat.le_refl _), e3⟩
      rw [g1]
      cases x2 with
      | normal => exact (hne rfl).elim
      | _ => rfl
    · cases h

theorem vexec_ok {c : VCalls} {C : ACalls} (hC : VSim c C) {K : Nat} {fr : Fr} {n : Nat} : ∀ (code : VCode), code.okc = true → BodyR fr (vexec c K fr n code) (bexec C K n code.erase)
  | .skip, _ => fun l lA H M ι x l' H' s hm fi he h => by
    simp only [vexec, Option.some.injEq, Prod.mk.injEq] at h
    obtain ⟨rfl, rfl, rfl⟩ := h
    exact ⟨lA, M, ι, rfl, (Res.refl s).weak hm, he⟩
  | .reg ops, hc => fun l lA H M ι x l' H' s hm fi he h => by
    simp only [vexec] at h
    obtain ⟨p, h1, h2⟩ := Option.map_eq_some_iff.1 h
    simp only [Prod.mk.injEq] at h2
    obtain ⟨rfl, rfl⟩ := h2
    obtain ⟨lA', M', ι', g1, g2, g3⟩ := vops_ok hC ops _ _ _ _ _ _ s hm he hc h1
    refine ⟨lA', M', ι', ?_, g2.weak hm, g3⟩
    simp only [VCode.erase, bexec, g1]
    rfl
  | .dreg nk ops, hc => fun l lA H M ι x l' H' s hm fi he h => by
    simp only [vexec] at h
    obtain ⟨p, h1, h2⟩ := Option.map_eq_some_iff.1 h
    simp only [Prod.mk.injEq] at h2
    obtain ⟨rfl, rfl⟩ := h2
    obtain ⟨lA', M', ι', g1, g2, g3⟩ := vdreg_ok hC s hm he hc h1
    refine ⟨lA', M', ι', ?_, g2.weak hm, g3⟩
    simp only [VCode.erase, bexec, g1]
    rfl
  | .seq a b, hc => fun l lA H M ι x l' H' s hm fi he h => by
    simp only [VCode.okc, Bool.and_eq_true] at hc
    simp only [vexec] at h
    simp only [VCode.erase, bexec]
    split at h
    · rename_i l1 H1 h1
      obtain ⟨lA1, M1, ι1, g1, g2, g3⟩ := vexec_ok hC a hc.1 _ _ _ _ _ _ _ _ s hm fi he h1
      obtain ⟨lA', M', ι', q1, q2, q3⟩ := vexec_ok hC b hc.2 _ _ _ _ _ _ _ _ g2.vs g2.next (fi.of_guar g2.guar) g3 h
      rw [g1]
      exact ⟨lA', M', ι', q1, g2.trans q2 (Nat.le_refl _), q3⟩
    · rename_i hne
      obtain ⟨lA1, M1, ι1, g1, g2, g3⟩ := vexec_ok hC a hc.1 _ _ _ _ _ _ _ _ s hm fi he h
      refine ⟨lA1, M1, ι1, ?_, g2, g3⟩
      rw [g1]
      cases x with
      | normal => exact absurd h (hne _ _)
      | _ => rfl
  | .cond cx a b, hc => fun l lA H M ι x l' H' s hm fi he h => by
    simp only [VCode.okc, Bool.and_eq_true] at hc
    simp only [vexec] at h
    simp only [VCode.erase, bexec]
    have hx := ev_rel he hc.1.1
    split at h
    · rename_i hb
      rw [hb] at hx
      rw [hx.eq rfl]
      exact vexec_ok hC a hc.1.2 _ _ _ _ _ _ _ _ s hm fi he h
    · rename_i hb
      rw [hb] at hx
      rw [hx.eq rfl]
      exact vexec_ok hC b hc.2 _ _ _ _ _ _ _ _ s hm fi he h
    · cases h
  | .block id a, hc => fun l lA H M ι x l' H' s hm fi he h => by
    simp only [VCode.okc] at hc
    simp only [vexec] at h
    simp only [VCode.erase, bexec]
    split at h
    · rename_i i l1 H1 h1
      obtain ⟨lA1, M1, ι1, g1, g2, g3⟩ := vexec_ok hC a hc _ _ _ _ _ _ _ _ s hm fi he h1
      rw [g1]
      simp only
      split at h
      · rename_i hi
        rw [if_pos hi]
        simp only [Option.some.injEq, Prod.mk.injEq] at h
        obtain ⟨rfl, rfl, rfl⟩ := h
        exact ⟨lA1, M1, ι1, rfl, g2, g3⟩
      · rename_i hi
        rw [if_neg hi]
        simp only [Option.some.injEq, Prod.mk.injEq] at h
        obtain ⟨rfl, rfl, rfl⟩ := h
        exact ⟨lA1, M1, ι1, rfl, g2, g3⟩
    · rename_i hne
      obtain ⟨lA1, M1, ι1, g1, g2, g3⟩ := vexec_ok hC a hc _ _ _ _ _ _ _ _ s hm fi he h
      refine ⟨lA1, M1, ι1, ?_, g2, g3⟩
      rw [g1]
      cases x with
      | exit i => exact absurd h (hne _ _ _)
      | _ => rfl
  | .loop g keep out a, hc => fun l lA H M ι x l' H' s hm fi he h => by
    simp only [VCode.okc] at hc
    simp only [vexec] at h
    simp only [VCode.erase, bexec]
    exact vloop_ok (vexec_ok hC a hc) g keep out K _ _ _ _ _ _ _ _ s hm fi he h
  | .exit id, _ => fun l lA H M ι x l' H' s hm fi he h => by
    simp only [vexec, Option.some.injEq, Prod.mk.injEq] at h
    obtain ⟨rfl, rfl, rfl⟩ := h
    exact ⟨lA, M, ι, rfl, (Res.refl s).weak hm, he⟩
  | .ret, _ => fun l lA H M ι x l' H' s hm fi he h => by
    simp only [vexec, Option.some.injEq, Prod.mk.injEq] at h
    obtain ⟨rfl, rfl, rfl⟩ := h
    exact ⟨lA, M, ι, rfl, (Res.refl s).weak hm, he⟩
  | .fail, _ => fun l lA H M ι x l' H' s hm fi he h => by simp [vexec] at h

theorem VL.not_undef {M : Heap} {O : Nat → Prop} {κ : VI} {v a : AV} (h : VL M O κ v a) (hv : v ≠ .undef) : a ≠ .undef := by
  rintro rfl
  cases v with
  | undef => exact hv rfl
  | ptr p => cases p <;> simp [VL] at h
  | slice p => cases p <;> simp [VL] at h
  | map p => cases p <;> simp [VL] at h
  | _ => simp [VL] at h

theorem vRes_ok {ι : VI} {H M : Heap} (s : VS ι H M) {l lA : Fast} (he : EnvR ι M l lA) {r : ARes} {v : AV} (h : vRes r l H = some v) : ∃ a, bRes r lA M = some a ∧ VL M (own ι) ι v a := by
  cases r with
  | tmp t =>
    simp only [vRes, bRes] at h ⊢
    have h1 := he t
    split at h
    · cases h
    rename_i hne
    obtain rfl := Option.some.inj h
    have := h1.not_undef hne
    refine ⟨look lA t, ?_, h1⟩
    split
    · rename_i e
      exact absurd e this
    · rfl
  | cell t g n =>
    simp only [vRes, bRes] at h ⊢
    exact vL_ok s he (o := .load g n (.t t)) rfl h

theorem vResL_ok {ι : VI} {H M : Heap} (s : VS ι H M) {l lA : Fast} (he : EnvR ι M l lA) : ∀ {rs : List ARes} {vs : List AV}, vResL rs l H = some vs → ∃ as, bResL rs lA M = some as ∧ VLL M (own ι) ι vs as
  | [], vs, h => by
    obtain rfl := Option.some.inj h
    exact ⟨[], rfl, by simp [VLL]⟩
  | r :: rs, vs, h => by
    simp only [vResL] at h
    split at h
    · rename_i v vs' h1 h2
      obtain rfl := Option.some.inj h
      obtain ⟨a, g1, g2⟩ := vRes_ok s he h1
      obtain ⟨as, g3, g4⟩ := vResL_ok s he h2
      refine ⟨a :: as, ?_, by simp only [VLL]; exact ⟨g2, g4⟩⟩
      simp only [bResL, g1, g3, Option.bind_some, Option.map_some]
    · cases h

theorem vResults_ok {ι : VI} {H M : Heap} (s : VS ι H M) {l lA : Fast} (he : EnvR ι M l lA) {rs : List ARes} {v : AV} (h : vResults rs l H = some v) : ∃ a, bResults rs lA M = some a ∧ VL M (own ι) ι v a := by
  unfold vResults at h
  obtain ⟨vs, h1, h2⟩ := Option.map_eq_some_iff.1 h
  obtain ⟨as, g1, g2⟩ := vResL_ok s he h1
  unfold bResults
  rw [g1]
  match vs, as, g2 with
  | [], [], g2 =>
    simp only at h2
    subst h2
    exact ⟨_, rfl, VL.unit⟩
  | [x], [y], g2 =>
    simp only at h2
    subst h2
    simp only [VLL] at g2
    exact ⟨_, rfl, g2.1⟩
  | x :: x2 :: xs, y :: y2 :: ys, g2 =>
    simp only at h2
    subst h2
    exact ⟨_, rfl, by simp only [VL]; exact ⟨_, rfl, g2⟩⟩
  | [], _ :: _, g2 => simp [VLL] at g2
  | _ :: _, [], g2 => simp [VLL] at g2
  | [_], _ :: _ :: _, g2 => simp [VLL] at g2
  | _ :: _ :: _, [_], g2 => simp [VLL] at g2

theorem vexit_ok {frozen : Bool} {fr : Fr} {ι : VI} {H M : Heap} (s : VS ι H M) (hm : fr.mark ≤ H.next) (fi : FI fr H) {v a : AV} (hv : VL M (own ι) ι v a) {r : AV × Heap} (h : vexit frozen fr v H = some r) :
    ∃ ι', Res fr fr.mark ι H M ι' r.2 M ∧ VL M (own ι') ι' r.1 a := by
  unfold vexit at h
  cases frozen with
  | true =>
    simp only [if_true] at h
    split at h
    case h_2 => cases h
    rename_i v' X h1 h2
    obtain rfl := Option.some.inj h
    obtain ⟨g1, g2⟩ := frozen_ok s hm fi h1 h2 hv
    exact ⟨_, g1, g2⟩
  | false =>
    simp only [Bool.false_eq_true, if_false, gc, Option.some.injEq] at h
    subst h
    obtain ⟨h1, h2⟩ := gcIds_ok fr.mark H (idsOfL [v] ++ fr.tidy)
    obtain ⟨r, hr⟩ := gc_ok s hm fi _ h1 h2
    exact ⟨_, r, by simpa [renL] using hr _ _ hv⟩

theorem vbody_ok {c : VCalls} {C : ACalls} (hC : VSim c C) {K : Nat} {f : VFunc} (hf : f.code.okc = true) {vs as : List AV} {H M : Heap} {fr : Fr} {ι : VI} (s : VS ι H M) (hm : fr.mark ≤ H.next) (fi : FI fr H) (hv : VLL M (own ι) ι vs as) {r : AV × Heap}
    (h : vbody c K f vs H fr = some r) : ∃ a M' ι', bbody C K f.erase as M = some (a, M') ∧ Res fr fr.mark ι H M ι' r.2 M' ∧ VL M' (own ι') ι' r.1 a := by
  unfold vbody at h
  unfold bbody
  split at h
  case isFalse => cases h
  rename_i hcond
  rw [if_pos (by rw [← hv.length]; exact hcond)]
  have he : EnvR ι M (start 0 (vs ++ List.replicate (f.ntmps - f.nargs) (.tuple []))) (start 0 (as ++ List.replicate (f.ntmps - f.nargs) (.tuple []))) := fun t => by
    rw [look_start, look_start]
    simp only [Nat.zero_le, if_true, Nat.sub_zero]
    have hr : VLL M (own ι) ι (List.replicate (f.ntmps - f.nargs) (.tuple [])) (List.replicate (f.ntmps - f.nargs) (.tuple [])) := VLL.const _ (by
      generalize f.ntmps - f.nargs = k
      induction k with
      | zero => rfl
      | succ k ih => simpa [List.replicate_succ, plainCL, plainC] using ih)
    have := hv.append hr
    generalize vs ++ List.replicate (f.ntmps - f.nargs) (.tuple []) = V at *
    generalize as ++ List.replicate (f.ntmps - f.nargs) (.tuple []) = A at *
    rw [List.getD_eq_getElem?_getD, List.getD_eq_getElem?_getD]
    cases hi : V[t]? with
    | none => simp [VL]
    | some x =>
      obtain ⟨y, hy, hxy⟩ := this.get t x hi
      rw [hy]
      exact hxy
  have fin : ∀ (x : Ex) (l' : Fast) (H' : Heap), (x = .normal ∨ x = .ret) → vexec c K fr f.ntmps f.code (start 0 (vs ++ List.replicate (f.ntmps - f.nargs) (.tuple []))) H = some (x, l', H') → (match vResults f.results l' H' with | some v => vexit f.frozen fr v H' | none => none) = some r →
      ∃ lA' M' a ι', bexec C K f.ntmps f.code.erase (start 0 (as ++ List.replicate (f.ntmps - f.nargs) (.tuple []))) M = some (x, lA', M') ∧ bResults f.results lA' M' = some a ∧ Res fr fr.mark ι H M ι' r.2 M' ∧ VL M' (own ι') ι' r.1 a := by
    intro x l' H' hx h1 h2
    obtain ⟨lA', M', ι1, g1, g2, g3⟩ := vexec_ok hC f.code hf _ _ _ _ _ _ _ _ s hm fi he h1
    split at h2
    case h_2 => cases h2
    rename_i v hres
    obtain ⟨a, g4, g5⟩ := vResults_ok g2.vs g3 hres
    obtain ⟨ι2, g6, g7⟩ := vexit_ok g2.vs g2.next (fi.of_guar g2.guar) g5 h2
    exact ⟨lA', M', a, ι2, g1, g4, g2.trans g6 (Nat.le_refl _), g7⟩
  split at h
  · rename_i l' H' h1
    obtain ⟨lA', M', a, ι', g1, g2, g3, g4⟩ := fin _ _ _ (.inl rfl) h1 h
    refine ⟨a, M', ι', ?_, g3, g4⟩
    simp only [VFunc.erase]
    rw [g1]
    simp only [g2, Option.map_some]
  · rename_i l' H' h1
    obtain ⟨lA', M', a, ι', g1, g2, g3, g4⟩ := fin _ _ _ (.inr rfl) h1 h
    refine ⟨a, M', ι', ?_, g3, g4⟩
    simp only [VFunc.erase]
    rw [g1]
    simp only [g2, Option.map_some]
  · cases h

theorem VS.below {ι : VI} {H M : Heap} (s : VS ι H M) (T : List Nat) : FI { mark := H.next, tidy := T } H := fun i _ _ x hx => by
  unfold cellsOf at hx
  split at hx
  · rename_i c ro sl hg
    obtain ⟨j, _, c', _, g3⟩ := s.blk _ _ hg
    obtain ⟨j', h⟩ := VLL.ids _ _ g3 x hx
    exact (s.lt _ _ h).1
  · simp [idsOfL] at hx

/-- A summary stands for a body. -/
def VSum (g : List AV → Heap → Option (AV × Heap)) (af : AFunc) : Prop :=
  ∀ (C : ACalls) (K : Nat) (fr : Fr) (ι : VI) (H M : Heap) (vs as : List AV) (r : AV × Heap), VS ι H M → fr.mark ≤ H.next → VLL M (own ι) ι vs as → g vs H = some r → NRel fr ι H M r (bbody C K af as M)

/-- What V comes to, the machine comes to. -/
theorem vcall_ok {kn : FuncId} {T : FuncId → Option VFunc} {K : Nat} {G : Sums} {T' : FuncId → Option AFunc} (hkn : ∀ d M, bcall G T' K (d + 1) kn [] M = some (.bool true, M))
    (hT : ∀ f vf, f ≠ kn → T f = some vf → G f = none ∧ T' f = some vf.erase ∧ vf.code.okc = true ∧ ∀ g, vf.sum = some g → VSum g vf.erase) : ∀ d, VSim (vcall kn T K d) (bcall G T' K d)
  | 0 => fun fr f vs H r h => by simp [vcall] at h
  | d + 1 => fun fr f vs H r h ι M as s hm hv => by
    simp only [vcall] at h
    split at h
    · rename_i hf
      subst hf
      split at h
      · obtain rfl := Option.some.inj h
        cases as with
        | cons _ _ => simp [VLL] at hv
        | nil =>
          rw [hkn]
          exact NRel.quiet s (VL.scal rfl)
      · cases h
    · rename_i hf
      split at h
      case h_2 => cases h
      rename_i vf hvf
      obtain ⟨e1, e2, e3, e4⟩ := hT f vf hf hvf
      split at h
      · rename_i g hg
        simp only [bcall, e1, e2]
        exact e4 g hg _ K fr ι H M vs as r s hm hv h
      generalize (if vf.bare = true then [] else reach H (idsOfL vs)) = tidy at h
      split at h
      case isFalse => cases h
      rename_i hall
      simp only [bcall, e1, e2]
      obtain ⟨a, M', ι', g1, g2, g3⟩ := vbody_ok (vcall_ok hkn hT d) e3 s (Nat.le_refl _) (s.below tidy) hv h
      refine ⟨a, M', ι', g1, ⟨g2.vs, g2.stp, fun i h1 h2 x hx => ?_, g2.next⟩, g3⟩
      refine g2.guar i (by simp only; omega) ?_ x hx
      simp only
      cases hc : tidy.contains i with
      | false => rfl
      | true =>
        rw [List.all_eq_true] at hall
        have := hall i (by simpa using hc)
        rw [h2] at this
        simp at this
        omega

end Go.Proofs.Yteibgagdnidojaa
