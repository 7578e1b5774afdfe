/- The machine, part 4. -/
import Derived.Test.YtlcjmchhnbdepaaJ3
section
/- W, seventh part: as one's own; what grows. -/
set_option linter.all false
set_option linter.unusedSimpArgs false
namespace Go.Proofs.Ytlcjmchhnbdepaa

/-- What an operation that the machine does not notice leaves. -/
def NR (R : Nat → Prop) (ι : VI) (H : WH) (M : Heap) (v : AV) (H' : WH) (a : AV) : Prop := ∃ ι', VS R ι' H' M ∧ Stp H.length [] ι H M ι' H' M ∧ VL M (OR R ι') ι' v a
def NRL (R : Nat → Prop) (ι : VI) (H : WH) (M : Heap) (v : List AV) (H' : WH) (a : List AV) : Prop := ∃ ι', VS R ι' H' M ∧ Stp H.length [] ι H M ι' H' M ∧ VLL M (OR R ι') ι' v a

theorem NR.quiet {R : Nat → Prop} {ι : VI} {H : WH} {M : Heap} (s : VS R ι H M) {v a : AV} (h : VL M (OR R ι) ι v a) : NR R ι H M v H a := ⟨ι, s, .refl _ _ _ _ _ (Nat.le_refl _), h⟩

theorem new_acc {R : Nat → Prop} {ι : VI} {H : WH} {M : Heap} (s : VS R ι H M) {cs cs' : List AV} (h : VLL M (OR R ι) VI.none cs cs') {sz n : Nat} (hl : cs.length = n * sz) (ex sl : Bool) :
    ∃ ι', VS R ι' (H ++ [some (.cells cs false true)]) (M.push (.cells cs' false sl)) ∧ Stp H.length [] ι H M ι' (H ++ [some (.cells cs false true)]) (M.push (.cells cs' false sl)) ∧
      VL (M.push (.cells cs' false sl)) (OR R ι') ι' (.acc H.length 0 sz n true) (.slice (some (M.next, 0)) sz n n ex) := by
  have hl' := h.length
  obtain ⟨h1, h2⟩ := s.push (x := .cells cs false true) (y := .cells cs' false sl) (d := (cs.length, cs'.length)) ⟨cs', [], false, sl, cs'.length, by simp, fun _ => rfl, rfl, by simp, by simpa using h, fun h => by cases h⟩
  refine ⟨_, h1, h2, ?_⟩
  simp only [VL]
  refine ⟨_, _, _, _, rfl, Nat.le_refl _, (fun h => by cases h), fun _ => rfl, cs.length, cs'.length, by simp [VI.add, setAt], by omega, fun _ => ⟨trivial, hl.symm⟩, .inl ⟨M.next, by simp [VI.add, setAt], .inl ⟨rfl, by omega⟩⟩⟩

theorem new_sol {R : Nat → Prop} {ι : VI} {H : WH} {M : Heap} (s : VS R ι H M) (sz s' : Nat) (p : Option (Nat × Nat)) (hp : p ≠ none → s' = sz) :
    ∃ ι', VS R ι' (H ++ [some (.cells [] false true)]) M ∧ Stp H.length [] ι H M ι' (H ++ [some (.cells [] false true)]) M ∧ VL M (OR R ι') ι' (.acc H.length 0 sz 0 true) (.slice p s' 0 0 true) := by
  obtain ⟨h1, h2⟩ := s.pushSol
  refine ⟨_, h1, h2, ?_⟩
  simp only [VL]
  exact ⟨_, _, _, _, rfl, Nat.le_refl _, by simp, hp, 0, 0, by simp [VI.addSol, setAt], by omega, by simp, .inr ⟨by simp [VI.addSol, setAt], by simp⟩⟩

/-- The same block of the machine under a new name. -/
theorem re_name {R : Nat → Prop} {ι : VI} {H : WH} {M : Heap} (s : VS R ι H M) {b j : Nat} (hb : ι b = some j) {c0 : List AV} {sl0 : Bool} (hg : wget H b = some (.cells c0 false sl0)) {cs cs' t : List AV} {ro sl : Bool} {L : Nat}
    (hj : M.get j = some (.cells (cs' ++ t) ro sl)) (hro : ro = false) (h : VLL M (OR R ι) VI.none cs cs') (hL : L ≤ (cs' ++ t).length) {sz n cap : Nat} (hl : cs.length = n * sz) {p : Option (Nat × Nat)} {s' : Nat} {ex : Bool} (hn : n ≤ cap) (hnp : p = none → cap = 0 ∧ ex = true) (hs : p ≠ none → s' = sz)
    (hp : (p = some (j, 0) ∧ cap * sz ≤ L) ∨ (n = 0 ∧ cap = 0 ∧ ex = true)) :
    ∃ ι', VS R ι' (wput H b none ++ [some (.cells cs false true)]) M ∧ Stp H.length [b] ι H M ι' (wput H b none ++ [some (.cells cs false true)]) M ∧ VL M (OR R ι') ι' (.acc H.length 0 sz n true) (.slice p s' n cap ex) := by
  obtain ⟨h1, h2, h3⟩ := s.swap hb hg (x := .cells cs false true) (y := .cells (cs' ++ t) ro sl) (d := (cs.length, L)) ⟨cs', t, ro, sl, L, rfl, fun _ => hro, rfl, hL, by simpa using h⟩
  rw [Heap.put_same hj] at h1 h2
  refine ⟨_, h1, h2, ?_⟩
  simp only [VL]
  exact ⟨_, _, _, _, rfl, hn, hnp, hs, cs.length, L, by simp [VI.add, setAt], by omega, fun _ => ⟨trivial, hl.symm⟩, .inl ⟨j, h3, hp.imp (fun h => ⟨h.1, by omega⟩) (fun h => h)⟩⟩

theorem Stp.still {n : Nat} {t t' : List Nat} {ι ι1 : VI} {H H1 : WH} {M : Heap} (h : Stp n t ι H M ι1 H1 M) : Stp n t' ι H M ι1 H1 M :=
  ⟨h.keep, h.le, h.gone, h.toq, h.dimq, h.dgone, h.live, fun _ _ _ _ _ _ => rfl, h.next⟩

/-- What is a part takes the part's name. -/
theorem trim_ok {R : Nat → Prop} {ι : VI} {H : WH} {M : Heap} (s : VS R ι H M) {b sz n : Nat} {w : Bool} {a : AV} (h : VL M (OR R ι) ι (.acc b 0 sz n w) a) {c : List AV} (hg : wget H b = some (.cells c false true)) :
    NR R ι H M (.acc H.length 0 sz n true) (wput H b none ++ [some (.cells (c.take (n * sz)) false true)]) a := by
  obtain ⟨k1, k2, p, s', cap, ex, rfl, k3, k4, k5⟩ := VL.acc_at s h hg
  simp only [Nat.zero_add] at k1
  have hnp : p = none → cap = 0 ∧ ex = true := by
    simp only [VL] at h
    obtain ⟨_, _, _, _, e, _, q, _⟩ := h
    simp only [AV.slice.injEq] at e
    obtain ⟨rfl, rfl, _, rfl, rfl⟩ := e
    exact q
  have hlt : (c.take (n * sz)).length = n * sz := by simp only [List.length_take]; omega
  have part : ∀ {c' t : List AV}, (c'.take (n * sz)) ++ (c'.drop (n * sz) ++ t) = c' ++ t := fun {c' t} => by rw [← List.append_assoc, List.take_append_drop]
  rcases k5 with ⟨j, c', t, ro', sl', L, g1, g2, g3, g4, g5, g6, rfl, g7⟩ | ⟨rfl, rfl, rfl, ⟨j, c', t, ro', sl', L, g1, g2, g3, g4, g5, g6⟩ | ⟨g1, rfl, _⟩⟩
  · simp only [if_true] at g6
    obtain ⟨ι', q1, q2, q3⟩ := re_name s g1 hg (cs := c.take (n * sz)) (cs' := c'.take (n * sz)) (t := c'.drop (n * sz) ++ t) (by rw [part]; exact g2) (g3 rfl).1 (g6.take _) (by rw [part]; exact g5) hlt k3 hnp k4 (.inl ⟨rfl, by omega⟩)
    exact ⟨ι', q1, q2.still, q3⟩
  · simp only [if_true] at g6
    obtain ⟨ι', q1, q2, q3⟩ := re_name s g1 hg (cs := c.take (0 * sz)) (cs' := c'.take (0 * sz)) (t := c'.drop (0 * sz) ++ t) (by rw [part]; exact g2) (g3 rfl).1 (g6.take _) (by rw [part]; exact g5) hlt k3 hnp k4 (.inr ⟨rfl, rfl, rfl⟩)
    exact ⟨ι', q1, q2.still, q3⟩
  · obtain ⟨h1, h2⟩ := s.dropSol g1
    obtain ⟨ι', q1, q2, q3⟩ := new_sol h1 sz s' p k4
    rw [wput_len] at q2 q3
    refine ⟨ι', by simpa using q1, ?_, q3⟩
    have := h2.trans q2 (Nat.le_refl _)
    simpa using this.still

mutual
theorem nrmA_ok {R : Nat → Prop} (v : AV) (H : WH) (ι : VI) (M : Heap) (a : AV) (s : VS R ι H M) (h : VL M (OR R ι) ι v a) : NR R ι H M (nrmA v H).1 (nrmA v H).2 a := by
  rw [nrmA.eq_def]
  split
  · simp only [VL] at h
    obtain ⟨_, s', rfl⟩ := h
    exact new_sol s _ s' none (fun h => absurd rfl h)
  · split
    · rename_i w _ c hg
      have ht := trim_ok s h hg
      cases w with
      | false => exact ht
      | true =>
        have hc := (VL.acc_at s h hg).2.1 rfl
        simp only [trimC]
        rw [List.take_of_length_le (by omega)] at ht
        exact ht
    · exact NR.quiet s h
  · rename_i cs
    simp only [VL] at h
    obtain ⟨cs', rfl, h⟩ := h
    obtain ⟨ι', h1, h2, h3⟩ := nrmAL_ok cs H ι M cs' s h
    split
    rename_i l H' e
    rw [e] at h1 h2 h3
    exact ⟨ι', h1, h2, by simp only [VL]; exact ⟨cs', rfl, h3⟩⟩
  · rename_i cs
    simp only [VL] at h
    obtain ⟨cs', rfl, h⟩ := h
    obtain ⟨ι', h1, h2, h3⟩ := nrmAL_ok cs H ι M cs' s h
    split
    rename_i l H' e
    rw [e] at h1 h2 h3
    exact ⟨ι', h1, h2, by simp only [VL]; exact ⟨cs', rfl, h3⟩⟩
  · exact NR.quiet s h
termination_by SizeOf.sizeOf v
theorem nrmAL_ok {R : Nat → Prop} (v : List AV) (H : WH) (ι : VI) (M : Heap) (a : List AV) (s : VS R ι H M) (h : VLL M (OR R ι) ι v a) : NRL R ι H M (nrmAL v H).1 (nrmAL v H).2 a := by
  rw [nrmAL.eq_def]
  split
  · exact ⟨ι, s, .refl _ _ _ _ _ (Nat.le_refl _), h⟩
  · rename_i v r
    cases a with
    | nil => simp [VLL] at h
    | cons a l =>
      simp only [VLL] at h
      obtain ⟨ι1, h1, h2, h3⟩ := nrmA_ok v H ι M a s h.1
      obtain ⟨ι2, k1, k2, k3⟩ := nrmAL_ok r (nrmA v H).2 ι1 M l h1 (VLL.step s h2 h.2)
      split
      rename_i x1 x2 e
      rw [e] at h1 h2 h3 k1 k2 k3
      split
      rename_i y1 y2 e'
      rw [e'] at k1 k2 k3
      refine ⟨ι2, k1, ?_, by simp only [VLL]; exact ⟨VL.step h1 k2 h3, k3⟩⟩
      have := h2.trans k2 h2.next
      simpa using this
termination_by SizeOf.sizeOf v
end

theorem nrm_ok {R : Nat → Prop} (m : Option Bool) {v : AV} {H : WH} {ι : VI} {M : Heap} {a : AV} (s : VS R ι H M) (h : VL M (OR R ι) ι v a) : NR R ι H M (nrm m v H).1 (nrm m v H).2 a := by
  match m with
  | none => exact NR.quiet s h
  | some true => exact nrmA_ok v H ι M a s h
  | some false =>
    simp only [nrm]
    split
    case h_2 => exact NR.quiet s h
    rename_i p hp
    obtain ⟨h1, h2⟩ := s.iced p.2 (frz_live 5 false v p hp)
    refine ⟨_, h1, h2, ?_⟩
    have := frz_ok s (O' := OR R (ι.ice p.2)) (fun j h => h.imp own_ice id) (κ' := ι.ice p.2) (ice_le _ _ _) 5 false v p a hp h (fun b hb j hj => ?_)
    · exact this
    · have lv := frz_live 5 false v p hp b hb
      rintro (⟨i, q1, q2⟩ | hR)
      · simp only [VI.ice, Bool.or_eq_false_iff] at q1 q2
        have := s.inj i b j (.inr q2.1) (.inl lv) q1 hj (.inl q2.1)
        subst this
        rw [hasN_iff.2 hb] at q2
        cases q2.2
      · exact (s.res j hR).2 b (.inl lv) hj

theorem nrmL_ok {R : Nat → Prop} : ∀ (ms : List (Option Bool)) (v : List AV) (H : WH) (ι : VI) (M : Heap) (a : List AV), VS R ι H M → VLL M (OR R ι) ι v a → NRL R ι H M (nrmL ms v H).1 (nrmL ms v H).2 a
  | ms, [], H, ι, M, a, s, h => by
    simp only [nrmL]
    exact ⟨ι, s, .refl _ _ _ _ _ (Nat.le_refl _), h⟩
  | ms, v :: r, H, ι, M, a, s, h => by
    cases a with
    | nil => simp [VLL] at h
    | cons a l =>
      simp only [VLL] at h
      obtain ⟨ι1, h1, h2, h3⟩ := nrm_ok (ms.headD (some false)) s h.1
      obtain ⟨ι2, k1, k2, k3⟩ := nrmL_ok ms.tail r _ ι1 M l h1 (VLL.step s h2 h.2)
      simp only [nrmL]
      refine ⟨ι2, k1, ?_, by simp only [VLL]; exact ⟨VL.step h1 k2 h3, k3⟩⟩
      have := h2.trans k2 h2.next
      simpa using this

theorem nrmC_ok {R : Nat → Prop} (m : Option Bool) : ∀ (v : List AV) (H : WH) (ι : VI) (M : Heap) (a : List AV), VS R ι H M → VLL M (OR R ι) ι v a → NRL R ι H M (nrmC m v H).1 (nrmC m v H).2 a
  | [], H, ι, M, a, s, h => by
    simp only [nrmC]
    exact ⟨ι, s, .refl _ _ _ _ _ (Nat.le_refl _), h⟩
  | v :: r, H, ι, M, a, s, h => by
    cases a with
    | nil => simp [VLL] at h
    | cons a l =>
      simp only [VLL] at h
      obtain ⟨ι1, h1, h2, h3⟩ := nrm_ok m s h.1
      obtain ⟨ι2, k1, k2, k3⟩ := nrmC_ok m r _ ι1 M l h1 (VLL.step s h2 h.2)
      simp only [nrmC]
      refine ⟨ι2, k1, ?_, by simp only [VLL]; exact ⟨VL.step h1 k2 h3, k3⟩⟩
      have := h2.trans k2 h2.next
      simpa using this

/-- Other words for what stands in a block that is no slice's. -/
theorem VS.recell {R : Nat → Prop} {ι : VI} {H : WH} {M : Heap} (s : VS R ι H M) {b : Nat} {c c' : List AV} {ro : Bool} (hg : wget H b = some (.cells c ro false)) (hc : ∀ j d t ro' sl', ι b = some j → M.get j = some (.cells (d ++ t) ro' sl') → d.length = c.length → VLL M (OR R ι) ι c' d) (hl : c'.length = c.length) :
    VS R ι (wput H b (some (.cells c' ro false))) M ∧ Stp H.length [] ι H M ι (wput H b (some (.cells c' ro false))) M := by
  have hbl := wget_lt hg
  have gp : ∀ k, wget (wput H b (some (.cells c' ro false))) k = if k = b then some (.cells c' ro false) else wget H k := fun k => by
    rw [wget_put]
    by_cases e : k = b
    · rw [if_pos ⟨e, hbl⟩, if_pos e]
    · rw [if_neg (fun h => e h.1), if_neg e]
  have lv : ∀ k, (∃ z, wget (wput H b (some (.cells c' ro false))) k = some z) → ∃ z, wget H k = some z := fun k ⟨z, hz⟩ => by
    rw [gp] at hz
    by_cases e : k = b
    · exact ⟨_, e ▸ hg⟩
    · rw [if_neg e] at hz
      exact ⟨z, hz⟩
  refine ⟨⟨fun i j h => by rw [wput_len]; exact s.lt i j h, fun i i' j h h' e e' => s.inj i i' j (h.imp (lv i) id) (h'.imp (lv i') id) e e', fun i z hz => ?_, fun i h => by rw [wput_len]; exact s.solt i h, fun i hi c1 sl h => ?_, s.okM, fun j h => ⟨(s.res j h).1, fun i hi => (s.res j h).2 i (hi.imp (lv i) id)⟩⟩,
    ⟨.refl _ _, .refl _ _, fun _ _ h => h, fun _ _ => rfl, fun _ _ => rfl, fun _ _ _ => rfl, fun i _ => lv i, fun _ _ _ _ _ _ => rfl, by rw [wput_len]; exact Nat.le_refl _⟩⟩
  · rw [gp] at hz
    by_cases e : i = b
    · subst e
      rw [if_pos rfl] at hz
      obtain rfl := Option.some.inj hz
      rcases s.blk i _ hg with ⟨_, _, ro', h⟩ | ⟨j, h1, ⟨d, t, ro', sl', L, g1, g2, g3, g4, g5, g6⟩, h2⟩
      · cases h
      · exact .inr ⟨j, h1, ⟨d, t, ro', sl', L, g1, g2, by rw [hl]; exact g3, g4, by simpa using hc j d t ro' sl' h1 g1 g5.length.symm, g6⟩, h2⟩
    · rw [if_neg e] at hz
      exact s.blk i z hz
  · rw [gp] at h
    by_cases e : i = b
    · rw [if_pos e] at h
      subst e
      cases h
      exact s.ice i hi c _ hg
    · rw [if_neg e] at h
      exact s.ice i hi c1 sl h

theorem nrmB_ok {R : Nat → Prop} (m : Option Bool) (b : Nat) {H : WH} {ι : VI} {M : Heap} (s : VS R ι H M) : ∃ ι', VS R ι' (nrmB m b H) M ∧ Stp H.length [] ι H M ι' (nrmB m b H) M := by
  have quiet : ∃ ι', VS R ι' H M ∧ Stp H.length [] ι H M ι' H M := ⟨ι, s, .refl _ _ _ _ _ (Nat.le_refl _)⟩
  unfold nrmB
  cases m with
  | none => exact quiet
  | some m =>
  simp only
  split
  case h_2 => exact quiet
  rename_i c ro hg
  rcases s.blk b _ hg with ⟨_, _, ro', h⟩ | ⟨j, h1, ⟨d, t, ro', sl', L, g1, g2, g3, g4, g5, g6⟩, h2⟩
  · cases h
  simp only [Bool.false_eq_true, if_false] at g5
  obtain ⟨ι1, k1, k2, k3⟩ := nrmC_ok (some m) c H ι M d s g5
  split
  case h_2 => exact ⟨ι1, k1, k2⟩
  rename_i c2 ro2 hg2
  have hj1 := ((k2.le b (wget_lt hg)).1 j h1).1
  have hd := ((k2.le b (wget_lt hg)).1 j h1).2 _ g3
  have hl1 : (nrmC (some m) c H).1.length = c.length := by rw [k3.length, g5.length]
  have hl2 : c2.length = c.length := by
    obtain ⟨_, _, _, _, _, _, _, e, _⟩ := k1.at hj1 hg2
    rw [hd] at e
    simp only [Option.some.injEq, Prod.mk.injEq] at e
    exact e.1.symm
  obtain ⟨q1, q2⟩ := k1.recell hg2 (c' := (nrmC (some m) c H).1) (fun j' d' t' ro' sl' e1 e2 e3 => by
    rw [hj1] at e1
    obtain rfl := Option.some.inj e1
    rw [g1] at e2
    simp only [Option.some.injEq, Blk.cells.injEq] at e2
    have : d' = d := by
      have := congrArg (List.take c.length) e2.1
      rw [List.take_left' (by rw [g5.length]), List.take_left' (by rw [e3, hl2])] at this
      exact this.symm
    rw [this]
    exact k3) (by rw [hl1, hl2])
  refine ⟨ι1, q1, ?_⟩
  have := k2.trans q2 k2.next
  simpa using this

theorem nrmBs_ok {R : Nat → Prop} : ∀ (ms : List (Option Bool)) (m : Option Bool) (p : List Nat) (H : WH) (ι : VI) (M : Heap), VS R ι H M → ∃ ι', VS R ι' (nrmBs ms m p H) M ∧ Stp H.length [] ι H M ι' (nrmBs ms m p H) M
  | ms, m, [], H, ι, M, s => ⟨ι, s, .refl _ _ _ _ _ (Nat.le_refl _)⟩
  | ms, m, b :: p, H, ι, M, s => by
    obtain ⟨ι1, h1, h2⟩ := nrmB_ok (ms.headD m) b s
    obtain ⟨ι2, k1, k2⟩ := nrmBs_ok ms.tail m p _ ι1 M h1
    simp only [nrmBs]
    refine ⟨ι2, k1, ?_⟩
    have := h2.trans k2 h2.next
    simpa using this

end Go.Proofs.Ytlcjmchhnbdepaa
end

section
/- W, eighth part: elements, what grows, what is made, what is written to. -/
set_option linter.all false
set_option linter.unusedSimpArgs false
namespace Go.Proofs.Ytlcjmchhnbdepaa

theorem fitsB_iff {bytes k : Nat} (h : fitsB bytes k = true) : k * bytes ≤ 70368744177664 ∧ k ≤ 70368744177664 := by simpa [fitsB] using h

theorem VLL.ice {R : Nat → Prop} {ι : VI} {M : Heap} {S : List Nat} {l r : List AV} (h : VLL M (OR R ι) VI.none l r) : VLL M (OR R (ι.ice S)) VI.none l r :=
  VLL.mono ⟨Nat.le_refl _, fun b _ h => ⟨rfl, fun k => h (k.imp own_ice id)⟩⟩ _ _ _ _ (.refl _ _) h

theorem frzL_ok {R : Nat → Prop} {ι : VI} {H : WH} {M : Heap} (s : VS R ι H M) {k : Nat} {nested : Bool} {l : List AV} {p : List AV × List Nat} {r : List AV} (h : frzL (frz H k nested) l = some p) (hr : VLL M (OR R ι) ι l r) :
    VLL M (OR R (ι.ice p.2)) (nestI nested (ι.ice p.2)) p.1 r := by
  refine frzL_rel (P := fun b => b ∈ p.2) (fun v q a hq hv hb => ?_) l p r h hr (fun _ h => h)
  refine frz_ok s (O' := OR R (ι.ice p.2)) (fun j h => h.imp own_ice id) (κ' := ι.ice p.2) (ice_le _ _ _) k nested v q a hq hv (fun b hb' j hj => ?_)
  have lv := frz_live k nested v q hq b hb'
  rintro (⟨i, q1, q2⟩ | hR)
  · simp only [VI.ice, Bool.or_eq_false_iff] at q1 q2
    have := s.inj i b j (.inr q2.1) (.inl lv) q1 hj (.inl q2.1)
    subst this
    rw [hasN_iff.2 (hb _ hb')] at q2
    cases q2.2
  · exact (s.res j hR).2 b (.inl lv) hj

theorem wElems_ok {R : Nat → Prop} {ι : VI} {H : WH} {M : Heap} (s : VS R ι H M) {x a : AV} (hx : VL M (OR R ι) ι x a) {sz n : Nat} {cs : List AV} {S : List Nat} (h : wElems x sz H = some (n, cs, S)) :
    aElemSize a sz = true ∧ cs.length = n * sz ∧ ∃ cs', aElems a M = some (n, cs') ∧ VLL M (OR R (ι.ice S)) VI.none cs cs' := by
  unfold wElems at h
  split at h
  · rename_i sz' n' cs' ex
    split at h
    case h_2 => cases h
    rename_i e
    obtain rfl := Nat.eq_of_beq_eq_true e
    simp only [Option.some.injEq, Prod.mk.injEq] at h
    obtain ⟨rfl, rfl, rfl⟩ := h
    simp only [VL] at hx
    rcases hx with ⟨rfl, rfl, s', rfl⟩ | ⟨b, o, cap, ex', rfl, q1, q2, q3, q4⟩
    · exact ⟨rfl, by simp, [], rfl, by simp [VLL]⟩
    · refine ⟨by simp [aElemSize], q3, ?_⟩
      by_cases hn : n' = 0
      · subst hn
        rw [Nat.zero_mul] at q3
        obtain rfl := List.eq_nil_of_length_eq_zero q3
        exact ⟨[], by simp [aElems], by simp [VLL]⟩
      · obtain ⟨c, ro, sl, g1, g2, g3, g4, g5⟩ := q4 hn
        refine ⟨(c.drop o).take (n' * sz'), ?_, g5.ice⟩
        simp only [aElems, if_neg hn, Heap.read, g1, if_pos g4, Option.map_some]
  · simp only [Option.some.injEq, Prod.mk.injEq] at h
    obtain ⟨rfl, rfl, rfl⟩ := h
    simp only [VL] at hx
    obtain ⟨_, s', rfl⟩ := hx
    exact ⟨rfl, by simp, [], rfl, by simp [VLL]⟩
  · rename_i t
    split at h
    case h_2 => cases h
    rename_i e
    obtain rfl := Nat.eq_of_beq_eq_true e
    simp only [Option.some.injEq, Prod.mk.injEq] at h
    obtain ⟨rfl, rfl, rfl⟩ := h
    obtain rfl := hx.eq rfl
    refine ⟨rfl, by simp, _, rfl, ?_⟩
    have : ∀ t : List UInt8, VLL M (OR R (ι.ice [])) VI.none (t.map fun b => AV.int .u8 b.toNat) (t.map fun b => AV.int .u8 b.toNat) := fun t => by
      induction t with
      | nil => simp [VLL]
      | cons b t ih => simp only [List.map_cons, VLL, VL]; exact ⟨trivial, ih⟩
    exact this t
  · rename_i b o sz' n' w
    split at h
    case h_2 => cases h
    rename_i e
    obtain rfl := Nat.eq_of_beq_eq_true e
    split at h
    case h_2 => cases h
    rename_i c ro sl hg
    obtain ⟨k1, k2, p, s', cap, ex, rfl, k3, k4, k5⟩ := VL.acc_at s hx hg
    have fin : ∀ (cs : List AV) (S : List Nat), cs.length = n' * sz' → (∀ c' t, VLL M (OR R ι) (if sl then VI.none else ι) c c' → VLL M (OR R (ι.ice S)) VI.none cs (((c' ++ t).drop o).take (n' * sz'))) →
        aElemSize (.slice p s' n' cap ex) sz' = true ∧ cs.length = n' * sz' ∧ ∃ cs', aElems (.slice p s' n' cap ex) M = some (n', cs') ∧ VLL M (OR R (ι.ice S)) VI.none cs cs' := by
      intro cs S h1 h2
      have hz : aElemSize (.slice p s' n' cap ex) sz' = true := by
        cases p with
        | none =>
          rcases k5 with ⟨j, _, _, _, _, _, _, _, _, _, _, _, e, _⟩ | ⟨e, _⟩
          · cases e
          · simp [aElemSize, e]
        | some p => simp [aElemSize, k4 (by simp)]
      refine ⟨hz, h1, ?_⟩
      have hn0 : n' = 0 → cs = [] := fun e => by
        subst e
        rw [Nat.zero_mul] at h1
        exact List.eq_nil_of_length_eq_zero h1
      rcases k5 with ⟨j, c', t, ro', sl', L, g1, g2, g3, g4, g5, g6, rfl, g7⟩ | ⟨e, _⟩
      · obtain rfl := k4 (by simp)
        by_cases hn : n' = 0
        · rw [hn0 hn]
          subst hn
          exact ⟨[], by simp [aElems], by simp [VLL]⟩
        · have hl := g6.length
          refine ⟨_, ?_, h2 c' t g6⟩
          simp only [aElems, if_neg hn, Heap.read, g2]
          rw [if_pos (by simp only [List.length_append]; omega)]
          rfl
      · rw [hn0 e]
        subst e
        refine ⟨[], ?_, by simp [VLL]⟩
        cases p <;> simp [aElems]
    split at h
    · simp only [Option.some.injEq, Prod.mk.injEq] at h
      obtain ⟨rfl, rfl, rfl⟩ := h
      refine fin _ _ (accC_len k1 k2) fun c' t hc => ?_
      simp only [if_true] at hc
      exact (accC_rel hc k1 k2).ice
    · split at h
      case h_2 => cases h
      split at h
      case h_2 => cases h
      rename_i q hq
      simp only [Option.some.injEq, Prod.mk.injEq] at h
      obtain ⟨rfl, rfl, rfl⟩ := h
      obtain ⟨k6, k7⟩ := k2 rfl
      refine fin _ _ (by rw [frzL_len _ _ hq, k7]) fun c' t hc => ?_
      simp only [Bool.false_eq_true, if_false] at hc
      have := frzL_ok s hq hc
      rw [k6, List.drop_zero, k7, hc.length, List.take_left' rfl]
      exact this
  · cases h

theorem wElems_live {H : WH} {x : AV} {sz n : Nat} {cs : List AV} {S : List Nat} (h : wElems x sz H = some (n, cs, S)) : ∀ b ∈ S, ∃ y, wget H b = some y := by
  unfold wElems at h
  split at h
  · split at h
    · cases h; simp
    · cases h
  · cases h; simp
  · split at h
    · cases h; simp
    · cases h
  · split at h
    case h_2 => cases h
    split at h
    case h_2 => cases h
    split at h
    · cases h; simp
    · split at h
      case h_2 => cases h
      split at h
      case h_2 => cases h
      rename_i q hq
      cases h
      exact frzL_live (fun v p => frz_live 5 true v p) _ _ hq
  · cases h

theorem append_ok {R : Nat → Prop} {ι : VI} {H : WH} {M : Heap} (s : VS R ι H M) {x a : AV} (hx : VL M (OR R ι) ι x a) {sz bytes m len : Nat} {new new' old : List AV} (hnew : VLL M (OR R ι) VI.none new new') (hl : new.length = m * sz) {H' : WH} {t : List Nat}
    (h : wBase x sz H = some (len, old, H', t)) (hf : fitsB bytes (len + m) = true) :
    ∃ a' M' ι', aAppend sz bytes a m new' M = some (a', M') ∧ VS R ι' (H' ++ [some (.cells (old ++ new) false true)]) M' ∧ Stp H.length t ι H M ι' (H' ++ [some (.cells (old ++ new) false true)]) M' ∧ VL M' (OR R ι') ι' (.acc H'.length 0 sz (len + m) true) a' := by
  have hf' := fitsB_iff hf
  have hm0 : m = 0 → new = [] := fun e => by
    subst e
    rw [Nat.zero_mul] at hl
    exact List.eq_nil_of_length_eq_zero hl
  -- nothing was there
  have fresh : ∀ (ι0 : VI) (H0 : WH) (t0 : List Nat), VS R ι0 H0 M → H0.length = H.length → Stp H.length t0 ι H M ι0 H0 M → ∀ (p : Option (Nat × Nat)) (s' : Nat), (p ≠ none → s' = sz) → 0 + m = len + m → ∃ a' M' ι', aAppend sz bytes (.slice p s' 0 0 true) m new' M = some (a', M') ∧ VS R ι' (H0 ++ [some (.cells ([] ++ new) false true)]) M' ∧ Stp H.length t0 ι H M ι' (H0 ++ [some (.cells ([] ++ new) false true)]) M' ∧ VL M' (OR R ι') ι' (.acc H0.length 0 sz (0 + m) true) a' := by
    intro ι0 H0 t0 s0 hlen k0 p s' hps hlm
    by_cases hm : m = 0
    · obtain rfl := hm0 hm
      subst hm
      obtain ⟨ι', q1, q2, q3⟩ := new_sol s0 sz sz p (fun _ => rfl)
      refine ⟨.slice p sz 0 0 true, M, ι', ?_, q1, ?_, q3⟩
      · unfold aAppend
        cases p with
        | none => simp
        | some p => obtain rfl := hps (by simp); simp
      · have := k0.trans q2 (by omega)
        simpa using this
    · have e : aAppend sz bytes (.slice p s' 0 0 true) m new' M = some (.slice (some (M.next, 0)) sz (0 + m) (0 + m) false, M.push (.cells ([] ++ new') false true)) := by
        unfold aAppend
        simp only
        rw [if_neg (fun hc => hc.2 (hps hc.1)), if_neg (by omega), if_pos (by rw [hlm]; exact hf')]
        cases p with
        | none => rfl
        | some p => rfl
      have hnew0 := VLL.stepN k0 hnew
      obtain ⟨ι', q1, q2, q3⟩ := new_acc s0 (cs := [] ++ new) (cs' := [] ++ new') (by simpa using hnew0) (n := 0 + m) (sz := sz) (by simpa using hl) false true
      rw [e]
      refine ⟨_, _, ι', rfl, q1, ?_, q3⟩
      have := k0.trans q2 (by omega)
      simpa using this
  unfold wBase at h
  split at h
  · simp only [Option.some.injEq, Prod.mk.injEq] at h
    obtain ⟨rfl, rfl, rfl, rfl⟩ := h
    simp only [VL] at hx
    obtain ⟨_, s', rfl⟩ := hx
    exact fresh ι H [] s rfl (.refl _ _ _ _ _ (Nat.le_refl _)) none s' (fun h => absurd rfl h) rfl
  · rename_i b sz' n w
    split at h
    case h_2 => cases h
    rename_i e
    obtain rfl := Nat.eq_of_beq_eq_true e
    -- one's own
    have main : ∀ (c : List AV) (sl : Bool) (H1 : WH) (ι1 : VI) (old : List AV), wget H b = some (.cells c false sl) → VS R ι1 H1 M → H1.length = H.length → Stp H.length [] ι H M ι1 H1 M → wget H1 b = some (.cells c false sl) → old.length = n * sz' →
        (∀ c' t, VLL M (OR R ι) (if sl then VI.none else ι) c c' → VLL M (OR R ι1) VI.none old (((c' ++ t).drop 0).take (n * sz'))) → len = n →
        ∃ a' M' ι', aAppend sz' bytes a m new' M = some (a', M') ∧ VS R ι' (wput H1 b none ++ [some (.cells (old ++ new) false true)]) M' ∧ Stp H.length [b] ι H M ι' (wput H1 b none ++ [some (.cells (old ++ new) false true)]) M' ∧ VL M' (OR R ι') ι' (.acc (wput H1 b none).length 0 sz' (n + m) true) a' := by
      intro c sl H1 ι1 old hg s1 hlen k1 hg1 ho hr hln
      subst hln
      obtain ⟨q1, q2, p, s', cap, ex, rfl, q3, q4, q5⟩ := VL.acc_at s hx hg
      have hnp : p = none → cap = 0 ∧ ex = true := by
        simp only [VL] at hx
        obtain ⟨_, _, _, _, e, _, q, _⟩ := hx
        simp only [AV.slice.injEq] at e
        obtain ⟨rfl, rfl, _, rfl, rfl⟩ := e
        exact q
      have hnew1 := VLL.stepN k1 hnew
      rcases q5 with ⟨j, c', t, ro', sl', L, g1, g2, g3, g4, g5, g6, rfl, g7⟩ | ⟨rfl, rfl, rfl, ⟨j, c', t, ro', sl', L, g1, g2, g3, g4, g5, g6⟩ | ⟨g1, rfl, rfl⟩⟩
      · obtain rfl := q4 (by simp)
        obtain ⟨rfl, _⟩ := g3 rfl
        have hj1 := ((k1.le b (wget_lt hg)).1 j g1).1
        have hlc := g6.length
        have hcs := Nat.mul_le_mul_right s' q3
        have hr' := hr c' t g6
        have hold : VLL M (OR R ι1) VI.none old ((c' ++ t).take (len * s')) := by simpa using hr'
        simp only [List.length_append] at g5
        by_cases hm : m = 0
        · obtain rfl := hm0 hm
          subst hm
          have hn' : new' = [] := by
            have := hnew.length
            exact List.eq_nil_of_length_eq_zero (by simpa using this.symm)
          subst hn'
          obtain ⟨ι', r1, r2, r3⟩ := re_name s1 hj1 hg1 (cs := old ++ []) (cs' := (c' ++ t).take (len * s')) (t := (c' ++ t).drop (len * s')) (by rw [List.take_append_drop]; exact g2) rfl (by simpa using hold) (by rw [List.take_append_drop, List.length_append]; exact g5) (n := len + 0) (by simpa using ho) q3 hnp q4 (.inl ⟨rfl, by omega⟩)
          refine ⟨_, M, ι', ?_, r1, ?_, by rw [wput_len]; exact r3⟩
          · simp [aAppend, q3]
          · have := k1.trans r2 (by omega)
            simpa using this
        by_cases hfit : len + m ≤ cap
        · -- in place
          have hle : len * s' + new'.length ≤ (c' ++ t).length := by
            have := Nat.mul_le_mul_right s' hfit
            rw [← hnew.length, hl, List.length_append, ← Nat.add_mul]
            omega
          have hw : M.write j (0 + len * s') new' = some (M.put j (some (.cells ((c' ++ t).take (len * s') ++ new' ++ (c' ++ t).drop (len * s' + new'.length)) false sl'))) := by
            simp only [Heap.write, g2, Nat.zero_add]
            rw [if_pos hle]
          have hlenp : L ≤ (((c' ++ t).take (len * s') ++ new') ++ (c' ++ t).drop (len * s' + new'.length)).length := by
            simp only [List.length_append, List.length_take, List.length_drop] at hle ⊢
            omega
          obtain ⟨r1, r2, r3⟩ := s1.swap hj1 hg1 (x := .cells (old ++ new) false true) (y := .cells ((c' ++ t).take (len * s') ++ new' ++ (c' ++ t).drop (len * s' + new'.length)) false sl') (d := ((old ++ new).length, L))
            ⟨(c' ++ t).take (len * s') ++ new', (c' ++ t).drop (len * s' + new'.length), false, sl', L, rfl, fun _ => rfl, rfl, hlenp, by simpa using hold.append hnew1, fun h => by cases h⟩
          refine ⟨.slice (some (j, 0)) s' (len + m) cap ex, _, _, ?_, r1, ?_, ?_⟩
          rotate_left
          · have := k1.trans r2 (by omega)
            simpa using this
          · rw [wput_len]
            simp only [VL]
            refine ⟨some (j, 0), s', cap, ex, rfl, hfit, (fun h => by cases h), fun _ => rfl, (old ++ new).length, L, by simp [VI.add, setAt], ?_, fun _ => ⟨trivial, ?_⟩, .inl ⟨j, r3, .inl ⟨rfl, by omega⟩⟩⟩
            · rw [List.length_append, ho, hl, Nat.add_mul]; omega
            · rw [List.length_append, ho, hl, Nat.add_mul]
          · unfold aAppend
            simp only
            rw [if_neg (by simp), if_pos hfit, if_neg hm, hw]
            rfl
        · obtain ⟨oldA, e1, e2⟩ : ∃ oldA, (if (ex = true ∧ len = 0) then some [] else M.read j 0 (len * s')) = some oldA ∧ VLL M (OR R ι1) VI.none old oldA := by
            by_cases hc : ex = true ∧ len = 0
            · rw [if_pos hc]
              rw [hc.2, Nat.zero_mul] at ho
              obtain rfl := List.eq_nil_of_length_eq_zero ho
              exact ⟨[], rfl, by simp [VLL]⟩
            · rw [if_neg hc]
              refine ⟨(c' ++ t).take (len * s'), ?_, hold⟩
              simp only [Heap.read, g2]
              rw [if_pos (by simp only [List.length_append]; omega), List.drop_zero]
          have hlo : (old ++ new).length = (len + m) * s' := by rw [List.length_append, ho, hl, Nat.add_mul]
          cases ex with
          | true =>
            have e : aAppend s' bytes (.slice (some (j, 0)) s' len cap true) m new' M = some (.slice (some (M.next, 0)) s' (len + m) (len + m) false, M.push (.cells (oldA ++ new') false true)) := by
              unfold aAppend
              simp only
              rw [if_neg (by simp), if_neg hfit, if_pos hf']
              simp only [eq_self, true_and, if_true] at e1 ⊢
              rw [e1]
              rfl
            obtain ⟨r1, r2⟩ := s1.kill hj1 hg1 (M.get j)
            rw [Heap.put_same rfl] at r1 r2
            have rk := k1.trans r2 (by omega)
            obtain ⟨ι', u1, u2, u3⟩ := new_acc r1 (cs := old ++ new) (cs' := oldA ++ new') (VLL.stepN r2 (e2.append hnew1)) hlo false true
            rw [e]
            refine ⟨_, _, ι', rfl, u1, ?_, u3⟩
            have := rk.trans u2 (by rw [wput_len]; omega)
            simpa using this
          | false =>
            have e : aAppend s' bytes (.slice (some (j, 0)) s' len cap false) m new' M = some (.slice (some (M.next, 0)) s' (len + m) (len + m) false, (M.put j none).push (.cells (oldA ++ new') false true)) := by
              unfold aAppend
              simp only
              rw [if_neg (by simp), if_neg hfit, if_pos hf']
              simp only [Bool.false_eq_true, false_and, if_false] at e1 ⊢
              rw [e1]
              simp [g2]
            obtain ⟨r1, r2⟩ := s1.kill hj1 hg1 none
            have rk := k1.trans r2 (by omega)
            obtain ⟨ι', u1, u2, u3⟩ := new_acc r1 (cs := old ++ new) (cs' := oldA ++ new') (VLL.stepN r2 (e2.append hnew1)) hlo false true
            rw [e]
            refine ⟨_, _, ι', rfl, u1, ?_, u3⟩
            have := rk.trans u2 (by rw [wput_len]; omega)
            simpa using this
      · -- empty, and no room
        rw [Nat.zero_mul] at ho
        obtain rfl := List.eq_nil_of_length_eq_zero ho
        have hj1 := ((k1.le b (wget_lt hg)).1 j g1).1
        by_cases hm : m = 0
        · obtain rfl := hm0 hm
          subst hm
          have hn' : new' = [] := by
            have := hnew.length
            exact List.eq_nil_of_length_eq_zero (by simpa using this.symm)
          subst hn'
          obtain ⟨ι', r1, r2, r3⟩ := re_name s1 hj1 hg1 (cs := [] ++ []) (cs' := []) (t := c' ++ t) g2 (g3 rfl).1 (by simp [VLL]) g5 (n := 0 + 0) (sz := sz') (by simp) (Nat.le_refl _) hnp (s' := sz') (fun _ => rfl) (.inr ⟨rfl, rfl, rfl⟩)
          refine ⟨_, M, ι', ?_, r1, ?_, by rw [wput_len]; exact r3⟩
          · cases p with
            | none => simp [aAppend]
            | some p => obtain rfl := q4 (by simp); simp [aAppend]
          · have := k1.trans r2 (by omega)
            simpa using this
        · obtain ⟨r1, r2⟩ := s1.kill hj1 hg1 (M.get j)
          rw [Heap.put_same rfl] at r1 r2
          have := fresh _ _ _ r1 (by rw [wput_len]; exact hlen) (k1.trans r2 (by omega)) p s' q4 rfl
          simpa using this
      · rw [Nat.zero_mul] at ho
        obtain rfl := List.eq_nil_of_length_eq_zero ho
        have hs1 := ((k1.le b (wget_lt hg)).2 g1).1
        obtain ⟨r1, r2⟩ := s1.dropSol hs1
        have := fresh _ _ _ r1 (by rw [wput_len]; exact hlen) (k1.trans r2 (by omega)) p s' q4 rfl
        simpa using this
    split at h
    · rename_i c hg
      simp only [Option.some.injEq, Prod.mk.injEq] at h
      obtain ⟨rfl, rfl, rfl, rfl⟩ := h
      obtain ⟨k1, k2, _⟩ := VL.acc_at s hx hg
      exact main c true H ι _ hg s rfl (.refl _ _ _ _ _ (Nat.le_refl _)) hg (accC_len k1 k2) (fun c' t hc => accC_rel (by simpa using hc) k1 k2) rfl
    · rename_i c hg
      split at h
      case h_2 => cases h
      split at h
      case h_2 => cases h
      rename_i p hp
      split at h
      case h_2 => cases h
      rename_i hb
      simp only [Option.some.injEq, Prod.mk.injEq] at h
      obtain ⟨rfl, rfl, rfl, rfl⟩ := h
      obtain ⟨k1, k2, _⟩ := VL.acc_at s hx hg
      obtain ⟨k3, k4⟩ := k2 rfl
      obtain ⟨u1, u2⟩ := s.iced p.2 (frzL_live (fun v p => frz_live 5 true v p) _ _ hp)
      refine main c false (wice H p.2) (ι.ice p.2) _ hg u1 (wice_len _ _) u2 ?_ (by rw [frzL_len _ _ hp, k4]) (fun c' t hc => ?_) rfl
      · rw [wice_get, hb]
        exact hg
      · simp only [Bool.false_eq_true, if_false] at hc
        have := frzL_ok s hp hc
        rw [List.drop_zero, k4, hc.length, List.take_left' rfl]
        exact this
    · cases h
  · cases h

end Go.Proofs.Ytlcjmchhnbdepaa
end

section
/- W, ninth part: memory that is handed on, and comes back. -/
set_option linter.all false
set_option linter.unusedSimpArgs false
namespace Go.Proofs.Ytlcjmchhnbdepaa

/-! ### Names -/

theorem ixOf_get : ∀ {p : List Nat} {b k : Nat}, ixOf p b = some k → p[k]? = some b
  | [], b, k, h => by simp [ixOf] at h
  | a :: r, b, k, h => by
    simp only [ixOf] at h
    split at h
    · rename_i e
      obtain rfl := Option.some.inj h
      simp [Nat.eq_of_beq_eq_true e]
    · split at h
      · rename_i k' hk
        obtain rfl := Option.some.inj h
        simpa using ixOf_get hk
      · cases h
theorem ixOf_none : ∀ {p : List Nat} {b : Nat}, ixOf p b = none → b ∉ p
  | [], b, _ => by simp
  | a :: r, b, h => by
    simp only [ixOf] at h
    split at h
    · cases h
    · rename_i e
      split at h
      · cases h
      · rename_i hr
        simp only [List.mem_cons, not_or]
        exact ⟨fun e' => by subst e'; simp at e, ixOf_none hr⟩
theorem ixOf_of_get : ∀ {p : List Nat} (hp : p.Nodup) {b k : Nat} (h : p[k]? = some b), ixOf p b = some k
  | [], _, b, k, h => by simp at h
  | a :: r, hp, b, 0, h => by
    simp only [List.getElem?_cons_zero, Option.some.injEq] at h
    subst h
    simp [ixOf]
  | a :: r, hp, b, k + 1, h => by
    simp only [List.getElem?_cons_succ] at h
    rw [List.nodup_cons] at hp
    have hne : a ≠ b := fun e => hp.1 (e ▸ List.mem_of_getElem? h)
    have : Nat.beq a b = false := by
      cases hh : Nat.beq a b with
      | false => rfl
      | true => exact absurd (Nat.eq_of_beq_eq_true hh) hne
    simp only [ixOf, this, ixOf_of_get hp.2 h]

/-- New names, where they are the same. -/
def Via (f : Nat → Option Nat) (κ κ' : VI) : Prop := ∀ b k, f b = some k → (∀ j, κ b = some j → κ' k = some j) ∧ (κ.sol b = true → κ'.sol k = true) ∧ (∀ d, κ.dim b = some d → κ'.dim k = some d)

mutual
theorem VL.rn {M M' : Heap} {O O' : Nat → Prop} (hk : Keeps M O M' O') {f : Nat → Option Nat} {κ κ' : VI} (hf : Via f κ κ') : ∀ (v a : AV), VL M O κ v a → VL M' O' κ' (Proofs.Ytlcjmchhnbdepaa.rn f v) a
  | .undef, _, _ => by simp [Proofs.Ytlcjmchhnbdepaa.rn, VL]
  | .bool _, _, e => by simpa [Proofs.Ytlcjmchhnbdepaa.rn, VL] using e
  | .int _ _, _, e => by simpa [Proofs.Ytlcjmchhnbdepaa.rn, VL] using e
  | .str _, _, e => by simpa [Proofs.Ytlcjmchhnbdepaa.rn, VL] using e
  | .ptr none, _, e => by simpa [Proofs.Ytlcjmchhnbdepaa.rn, VL] using e
  | .ptr (some q), a, e => by
    simp only [VL] at e
    obtain ⟨j, h1, rfl⟩ := e
    simp only [Proofs.Ytlcjmchhnbdepaa.rn]
    split
    · rename_i b hb
      simp only [VL]
      exact ⟨j, (hf _ _ hb).1 j h1, rfl⟩
    · simp [VL]
  | .slice none _ _ _ _, _, e => by simpa [Proofs.Ytlcjmchhnbdepaa.rn, VL] using e
  | .slice (some _) _ _ _ _, _, e => by simp [VL] at e
  | .map none, _, e => by simpa [Proofs.Ytlcjmchhnbdepaa.rn, VL] using e
  | .map (some r), a, e => by
    simp only [VL] at e
    obtain ⟨j, h1, rfl⟩ := e
    simp only [Proofs.Ytlcjmchhnbdepaa.rn]
    split
    · rename_i b hb
      simp only [VL]
      exact ⟨j, (hf _ _ hb).1 j h1, rfl⟩
    · simp [VL]
  | .func g cs, a, e => by
    simp only [VL, Proofs.Ytlcjmchhnbdepaa.rn] at e ⊢
    obtain ⟨cs', rfl, h⟩ := e
    exact ⟨cs', rfl, VLL.rn hk hf cs cs' h⟩
  | .nilFunc, _, e => by simpa [Proofs.Ytlcjmchhnbdepaa.rn, VL] using e
  | .agg cs, a, e => by
    simp only [VL, Proofs.Ytlcjmchhnbdepaa.rn] at e ⊢
    obtain ⟨cs', rfl, h⟩ := e
    exact ⟨cs', rfl, VLL.rn hk hf cs cs' h⟩
  | .tuple cs, a, e => by
    simp only [VL, Proofs.Ytlcjmchhnbdepaa.rn] at e ⊢
    obtain ⟨cs', rfl, h⟩ := e
    exact ⟨cs', rfl, VLL.rn hk hf cs cs' h⟩
  | .list sz n cs ex, a, e => by
    simp only [Proofs.Ytlcjmchhnbdepaa.rn]
    exact VL.mono hk κ κ' _ _ (fun i hi => by simp [idsOf] at hi) e
  | .elem cs, a, e => by
    simp only [Proofs.Ytlcjmchhnbdepaa.rn]
    exact VL.mono hk κ κ' _ _ (fun i hi => by simp [idsOf] at hi) e
  | .acc b o sz n w, a, e => by
    simp only [Proofs.Ytlcjmchhnbdepaa.rn]
    split
    · rename_i b' hb
      simp only [VL] at e ⊢
      obtain ⟨p, s', cap, ex, h1, h2, h3, h4, m, L, h5, h6, h7, h8⟩ := e
      obtain ⟨f1, f2, f3⟩ := hf _ _ hb
      exact ⟨p, s', cap, ex, h1, h2, h3, h4, m, L, f3 _ h5, h6, h7, h8.imp (fun ⟨j, k1, k2⟩ => ⟨j, f1 j k1, k2⟩) (fun ⟨k1, k2⟩ => ⟨f2 k1, k2⟩)⟩
    · simp [VL]
theorem VLL.rn {M M' : Heap} {O O' : Nat → Prop} (hk : Keeps M O M' O') {f : Nat → Option Nat} {κ κ' : VI} (hf : Via f κ κ') : ∀ (l r : List AV), VLL M O κ l r → VLL M' O' κ' (rnL f l) r
  | [], [], _ => by simp [rnL, VLL]
  | v :: l, a :: r, e => by
    simp only [VLL, rnL] at e ⊢
    exact ⟨VL.rn hk hf v a e.1, VLL.rn hk hf l r e.2⟩
  | [], _ :: _, e => by simp [VLL] at e
  | _ :: _, [], e => by simp [VLL] at e
end

theorem rnL_len {f : Nat → Option Nat} : ∀ (l : List AV), (rnL f l).length = l.length
  | [] => rfl
  | _ :: l => by simp [rnL, rnL_len l]

theorem BL.rn {M M' : Heap} {O O' : Nat → Prop} (hk : Keeps M O M' O') {f : Nat → Option Nat} {κ κ' : VI} (hf : Via f κ κ') {d : Option (Nat × Nat)} {x : Blk} {y : Option Blk} (r : BL M O κ d x y) : BL M' O' κ' d (rnB f x) y := by
  cases x with
  | cells c ro sl =>
    obtain ⟨c', t, ro', sl', L, rfl, h0, h1, h2, h3, h4⟩ := r
    cases sl with
    | true => exact ⟨c', t, ro', sl', L, rfl, h0, h1, h2, VLL.mono hk _ _ c c' (.refl _ _) h3, h4⟩
    | false => exact ⟨c', t, ro', sl', L, rfl, h0, by rw [rnL_len]; exact h1, h2, VLL.rn hk hf c c' h3, h4⟩
  | map es => exact r

theorem rnB_ro (f : Nat → Option Nat) (x : Blk) : (rnB f x).ro = x.ro := by
  cases x with
  | cells c ro sl => cases sl <;> rfl
  | map es => rfl

mutual
theorem VL.retag {M : Heap} {O : Nat → Prop} {κ : VI} (v t a : AV) (h : VL M O κ v a) : VL M O κ (Proofs.Ytlcjmchhnbdepaa.retag v t) a := by
  rw [Proofs.Ytlcjmchhnbdepaa.retag.eq_def]
  split
  · split
    · simp only [VL] at h ⊢
      exact h
    · exact h
  · split
    · simp only [VL] at h ⊢
      obtain ⟨cs', rfl, h⟩ := h
      exact ⟨cs', rfl, VLL.retag _ _ _ h⟩
    · exact h
  · split
    · simp only [VL] at h ⊢
      obtain ⟨cs', rfl, h⟩ := h
      exact ⟨cs', rfl, VLL.retag _ _ _ h⟩
    · exact h
  · exact h
termination_by SizeOf.sizeOf v
theorem VLL.retag {M : Heap} {O : Nat → Prop} {κ : VI} (l ts r : List AV) (h : VLL M O κ l r) : VLL M O κ (retagL l ts) r := by
  rw [retagL.eq_def]
  split
  · split
    · cases r with
      | nil => simp [VLL] at h
      | cons a r =>
        simp only [VLL] at h ⊢
        exact ⟨VL.retag _ _ _ h.1, VLL.retag _ _ _ h.2⟩
    · exact h
  · exact h
termination_by SizeOf.sizeOf l
end

/-! ### Memory that is handed on -/

theorem closeH_len {H : WH} {p : List Nat} : ∀ (q : List Nat), (closeH H p q).length = q.length
  | [] => rfl
  | _ :: q => by simp [closeH, closeH_len q]
theorem closeH_get {H : WH} {p : List Nat} : ∀ (q : List Nat) (k : Nat), wget (closeH H p q) k = match q[k]? with
    | some b => rnO (ixOf p) (wget H b)
    | none => none
  | [], k => by simp [closeH, wget]
  | b :: q, 0 => by simp [closeH, wget]
  | b :: q, k + 1 => by simp [closeH, wget, closeH_get q k]
theorem rnO_some {f : Nat → Option Nat} {x : Option Blk} {y : Blk} (h : rnO f x = some y) : ∃ z, x = some z ∧ y = rnB f z := by
  cases x with
  | none => simp [rnO] at h
  | some z => simp only [rnO, Option.some.injEq] at h; exact ⟨z, rfl, h.symm⟩

def pickI (ι : VI) (p : List Nat) : VI := ⟨fun k => match p[k]? with
    | some b => ι b
    | none => none, fun k => match p[k]? with
    | some b => ι.sol b
    | none => false, fun k => match p[k]? with
    | some b => ι.gone b
    | none => true, fun k => match p[k]? with
    | some b => ι.dim b
    | none => none⟩

theorem pickI_via {ι : VI} {p : List Nat} : Via (ixOf p) ι (pickI ι p) := fun b k h => by
  have := ixOf_get h
  simp only [pickI, this]
  exact ⟨fun _ h => h, fun h => h, fun _ h => h⟩

theorem pick_own {ι : VI} {p : List Nat} {j : Nat} (h : own (pickI ι p) j) : ∃ b, b ∈ p ∧ ι b = some j ∧ ι.gone b = false := by
  obtain ⟨k, h1, h2⟩ := h
  simp only [pickI] at h1 h2
  cases e : p[k]? with
  | none => rw [e] at h1; cases h1
  | some b =>
    rw [e] at h1 h2
    exact ⟨b, List.mem_of_getElem? e, h1, h2⟩

theorem VS.pick {R R' : Nat → Prop} {ι : VI} {H : WH} {M : Heap} (s : VS R ι H M) {p : List Nat} (hp : p.Nodup) (hR : ∀ j, R' j → j < M.next ∧ ∀ b, b ∈ p → act ι H b → ι b ≠ some j) (hO : ∀ j, OR R' (pickI ι p) j → OR R ι j) :
    VS R' (pickI ι p) (closeH H p p) M := by
  have hk : Keeps M (OR R ι) M (OR R' (pickI ι p)) := ⟨Nat.le_refl _, fun b _ h => ⟨rfl, fun k => h (hO b k)⟩⟩
  have ac : ∀ k, act (pickI ι p) (closeH H p p) k → ∃ b, p[k]? = some b ∧ act ι H b := fun k h => by
    cases e : p[k]? with
    | none =>
      rcases h with ⟨x, h⟩ | h
      · rw [closeH_get, e] at h; cases h
      · simp only [pickI, e] at h; cases h
    | some b =>
      refine ⟨b, rfl, ?_⟩
      rcases h with ⟨x, h⟩ | h
      · rw [closeH_get, e] at h
        obtain ⟨z, hz, _⟩ := rnO_some h
        exact .inl ⟨z, hz⟩
      · simp only [pickI, e] at h
        exact .inr h
  have at' : ∀ {k b}, p[k]? = some b → (pickI ι p) k = ι b ∧ (pickI ι p).sol k = ι.sol b ∧ (pickI ι p).gone k = ι.gone b ∧ (pickI ι p).dim k = ι.dim b := fun e => by simp [pickI, e]
  refine ⟨fun k j h => ?_, fun k k' j h h' e e' g => ?_, fun k x hx => ?_, fun k h => ?_, fun k hk' c sl h => ?_, s.okM, fun j h => ⟨(hR j h).1, fun k hk' => ?_⟩⟩
  · cases e : p[k]? with
    | none => simp only [pickI, e] at h; cases h
    | some b =>
      rw [(at' e).1] at h
      exact ⟨by rw [closeH_len]; exact (List.getElem?_eq_some_iff.1 e).1, (s.lt b j h).2⟩
  · obtain ⟨b, q1, q2⟩ := ac k h
    obtain ⟨b', q1', q2'⟩ := ac k' h'
    rw [(at' q1).1] at e
    rw [(at' q1').1] at e'
    rw [(at' q1).2.2.1, (at' q1').2.2.1] at g
    have := s.inj b b' j q2 q2' e e' g
    subst this
    have := ixOf_of_get hp q1
    rw [ixOf_of_get hp q1'] at this
    exact (Option.some.inj this).symm
  · cases e : p[k]? with
    | none => rw [closeH_get, e] at hx; cases hx
    | some b =>
      rw [closeH_get, e] at hx
      obtain ⟨z, hz, rfl⟩ := rnO_some hx
      rw [(at' e).1, (at' e).2.1, (at' e).2.2.1, (at' e).2.2.2, rnB_ro]
      rcases s.blk b z hz with ⟨h1, h2, ro, rfl⟩ | ⟨j, h1, h2, h3⟩
      · exact .inl ⟨h1, h2, ro, rfl⟩
      · exact .inr ⟨j, h1, BL.rn hk pickI_via h2, h3⟩
  · cases e : p[k]? with
    | none => simp only [pickI, e] at h; cases h
    | some b =>
      rw [(at' e).2.1] at h
      rw [(at' e).1]
      exact ⟨by rw [closeH_len]; exact (List.getElem?_eq_some_iff.1 e).1, (s.solt b h).2⟩
  · cases e : p[k]? with
    | none => rw [closeH_get, e] at h; cases h
    | some b =>
      rw [(at' e).2.2.1] at hk'
      rw [closeH_get, e] at h
      obtain ⟨z, hz, h2⟩ := rnO_some h
      have hr := rnB_ro (ixOf p) z
      rw [← h2] at hr
      cases z with
      | cells c' ro sl' =>
        simp only [Blk.ro] at hr
        subst hr
        exact s.ice b hk' c' sl' hz
      | map es => cases h2
  · obtain ⟨b, q1, q2⟩ := ac k hk'
    rw [(at' q1).1]
    exact (hR j h).2 b (List.mem_of_getElem? q1) q2

/-! ### What is reached -/

theorem ddup_spec {H : WH} {np : Nat} : ∀ (l seen : List Nat), (ddup H np seen l).Nodup ∧ ∀ x, x ∈ ddup H np seen l → x ∈ l ∧ hasN seen x = false ∧ (x < np ∨ ∃ y, wget H x = some y)
  | [], seen => by simp [ddup]
  | a :: r, seen => by
    simp only [ddup]
    cases h : hasN seen a with
    | true =>
      obtain ⟨h1, h2⟩ := ddup_spec r seen
      exact ⟨h1, fun x hx => ⟨List.mem_cons_of_mem _ (h2 x hx).1, (h2 x hx).2⟩⟩
    | false =>
      obtain ⟨h1, h2⟩ := ddup_spec (H := H) (np := np) r (a :: seen)
      have hne : ∀ x, x ∈ ddup H np (a :: seen) r → x ≠ a ∧ hasN seen x = false := fun x hx => by
        have := (h2 x hx).2.1
        simp only [hasN] at this
        split at this
        · cases this
        · rename_i e
          exact ⟨fun e' => by subst e'; simp at e, this⟩
      have hcons : (x : Nat) → x ∈ ddup H np (a :: seen) r → x ∈ a :: r ∧ hasN seen x = false ∧ (x < np ∨ ∃ y, wget H x = some y) := fun x hx =>
        ⟨List.mem_cons_of_mem _ (h2 x hx).1, (hne x hx).2, (h2 x hx).2.2⟩
      have both : (a < np ∨ ∃ y, wget H a = some y) → (a :: ddup H np (a :: seen) r).Nodup ∧ ∀ x, x ∈ a :: ddup H np (a :: seen) r → x ∈ a :: r ∧ hasN seen x = false ∧ (x < np ∨ ∃ y, wget H x = some y) := fun ha =>
        ⟨List.nodup_cons.2 ⟨fun hm => (hne a hm).1 rfl, h1⟩, fun x hx => by
          rcases List.mem_cons.1 hx with rfl | hx
          · exact ⟨List.mem_cons_self, h, ha⟩
          · exact hcons x hx⟩
      simp only
      split
      · rename_i hb
        exact both (.inl (by simpa [Nat.blt_eq] using hb))
      · split
        · rename_i y hy
          exact both (.inr ⟨y, hy⟩)
        · exact ⟨h1, hcons⟩

theorem hasN_cons {a b : Nat} {l : List Nat} (h : a ≠ b) : hasN (a :: l) b = hasN l b := by
  have : Nat.beq a b = false := by
    cases hh : Nat.beq a b with
    | false => rfl
    | true => exact absurd (Nat.eq_of_beq_eq_true hh) h
  simp [hasN, this]

theorem ddup_pre {H : WH} {np : Nat} : ∀ (l seen r : List Nat), l.Nodup → (∀ x, x ∈ l → x < np ∧ hasN seen x = false) → ∃ r', ddup H np seen (l ++ r) = l ++ r'
  | [], seen, r, _, _ => ⟨ddup H np seen r, rfl⟩
  | a :: l, seen, r, hn, h => by
    rw [List.nodup_cons] at hn
    obtain ⟨h1, h2⟩ := h a (by simp)
    obtain ⟨r', hr⟩ := ddup_pre (H := H) (np := np) l (a :: seen) r hn.2 (fun x hx => ⟨(h x (by simp [hx])).1, by
      have hne : a ≠ x := fun e => hn.1 (by rw [e]; exact hx)
      rw [hasN_cons hne]
      exact (h x (by simp [hx])).2⟩)
    refine ⟨r', ?_⟩
    simp only [List.cons_append, ddup, h2]
    rw [show Nat.blt a np = true by simpa [Nat.blt_eq] using h1]
    simp only [hr]

theorem clo_ok (H : WH) (np : Nat) (roots : List Nat) : (clo H np roots).Nodup ∧ (∀ x, x ∈ clo H np roots → x < np ∨ ∃ y, wget H x = some y) ∧ ∃ r, clo H np roots = List.range np ++ r := by
  have pre : ∀ r, ∃ r', ddup H np [] (List.range np ++ r) = List.range np ++ r' := fun r =>
    ddup_pre _ [] r List.nodup_range (fun x hx => ⟨List.mem_range.1 hx, rfl⟩)
  have step : ∀ l, (∃ r, l = List.range np ++ r) → ∃ r, clo1 H np l = List.range np ++ r := fun l ⟨r, h⟩ => by
    subst h
    unfold clo1
    rw [List.append_assoc]
    exact pre _
  refine ⟨(ddup_spec _ _).1, fun x hx => ((ddup_spec _ _).2 x hx).2.2, ?_⟩
  exact step _ (step _ (step _ (pre _)))

theorem clo_low {H : WH} {np i : Nat} {roots : List Nat} (h : i < np) : (clo H np roots)[i]? = some i := by
  obtain ⟨_, _, r, hr⟩ := clo_ok H np roots
  rw [hr, List.getElem?_append_left (by simpa using h)]
  simp [h]

/-- A part of a function: its memory is the frame's, with new names above 'np'. -/
theorem gc_ok {R : Nat → Prop} {ι : VI} {H : WH} {M : Heap} (s : VS R ι H M) {np : Nat} (hn : np ≤ H.length) (roots : List Nat) {vs as : List AV} (hv : VLL M (OR R ι) ι vs as) :
    ∃ ι', VS R ι' (closeH H (clo H np roots) (clo H np roots)) M ∧ Stp np [] ι H M ι' (closeH H (clo H np roots) (clo H np roots)) M ∧ VLL M (OR R ι') ι' (rnL (ixOf (clo H np roots)) vs) as := by
  obtain ⟨h1, h2, r, hr⟩ := clo_ok H np roots
  have hlow : ∀ i, i < np → (clo H np roots)[i]? = some i := fun i => clo_low
  generalize clo H np roots = p at *
  have hsub : ∀ j, OR R (pickI ι p) j → OR R ι j := fun j h => h.imp (fun h => by
    obtain ⟨b, _, h3, h4⟩ := pick_own h
    exact ⟨b, h3, h4⟩) id
  have hs := s.pick h1 (R' := R) (fun j h => ⟨(s.res j h).1, fun b _ hb => (s.res j h).2 b hb⟩) hsub
  have hko : Keeps M (own ι) M (own (pickI ι p)) := ⟨Nat.le_refl _, fun b _ h => ⟨rfl, fun k => h (by obtain ⟨b', _, h3, h4⟩ := pick_own k; exact ⟨b', h3, h4⟩)⟩⟩
  refine ⟨_, hs, ⟨hko, fun i hi => ?_, fun i hi h => ?_, fun i hi => by simp only [pickI, hlow i hi], fun i hi => by simp only [pickI, hlow i hi], fun i hi _ => by simp only [pickI, hlow i hi], fun i hi h => ?_, fun _ _ _ _ _ _ => rfl, ?_⟩, ?_⟩
  · have := hlow i hi
    simp only [pickI, this]
    exact ⟨fun _ h => ⟨h, fun _ h => h⟩, fun h => ⟨h, fun _ h => h⟩⟩
  · simp only [pickI, hlow i hi]
    exact h
  · obtain ⟨x, h⟩ := h
    rw [closeH_get, hlow i hi] at h
    obtain ⟨z, hz, _⟩ := rnO_some h
    exact ⟨z, hz⟩
  · rw [closeH_len, hr]
    simp
  · exact VLL.rn ⟨Nat.le_refl _, fun b _ h => ⟨rfl, fun k => h (hsub b k)⟩⟩ pickI_via _ _ hv

theorem wEnter_ok {R : Nat → Prop} {ι : VI} {H : WH} {M : Heap} (s : VS R ι H M) {np : Nat} (hn : np ≤ H.length) {ms bs : List (Option Bool)} {ts vs as : List AV} (hv : VLL M (OR R ι) ι vs as) {k : List AV → WH → Prop} (h : wEnter np ms bs ts vs H k) :
    ∃ vs' blks ι', k vs' blks ∧ VS R ι' blks M ∧ Stp np [] ι H M ι' blks M ∧ VLL M (OR R ι') ι' vs' as := by
  unfold wEnter at h
  obtain ⟨ι1, h1, h2, h3⟩ := nrmL_ok ms (retagL vs ts) H ι M as s (VLL.retag _ _ _ hv)
  generalize hr : nrmL ms (retagL vs ts) H = r at *
  obtain ⟨vs1, H1⟩ := r
  simp only at h h1 h2 h3
  obtain ⟨ι2, k1, k2⟩ := nrmBs_ok bs none (clo H1 np (idsOfL vs1)) H1 ι1 M h1
  have k3 := VLL.step h1 k2 h3
  obtain ⟨ι3, q1, q2, q3⟩ := gc_ok k1 (Nat.le_trans hn (Nat.le_trans h2.next k2.next)) (idsOfL vs1) k3
  refine ⟨_, _, ι3, h, q1, ?_, q3⟩
  have e1 : Stp np [] ι H M ι1 H1 M := h2.weak hn
  have e2 : Stp np [] ι1 H1 M ι2 _ M := k2.weak (Nat.le_trans hn h2.next)
  have := (e1.trans e2 (Nat.le_refl _)).trans q2 (Nat.le_refl _)
  simpa using this

end Go.Proofs.Ytlcjmchhnbdepaa
end

section
/- W, tenth part: calls. -/
set_option linter.all false
set_option linter.unusedSimpArgs false
namespace Go.Proofs.Ytlcjmchhnbdepaa

theorem putAll_len {f : Nat → Option Nat} : ∀ (p : List Nat) (out H : WH), (putAll f p out H).length = H.length
  | [], out, H => by simp [putAll]
  | b :: p, [], H => by simp [putAll]
  | b :: p, x :: out, H => by simp [putAll, putAll_len p, wput_len]

theorem putAll_skip {f : Nat → Option Nat} : ∀ (p : List Nat) (out H : WH) (i : Nat), i ∉ p → wget (putAll f p out H) i = wget H i
  | [], out, H, i, _ => by simp [putAll]
  | b :: p, [], H, i, _ => by simp [putAll]
  | b :: p, x :: out, H, i, h => by
    simp only [List.mem_cons, not_or] at h
    simp only [putAll]
    rw [putAll_skip p out _ i h.2, wget_put, if_neg (fun e => h.1 e.1)]

theorem putAll_get {f : Nat → Option Nat} : ∀ (p : List Nat) (out H : WH) (k b : Nat), p.Nodup → p.length ≤ out.length → p[k]? = some b → b < H.length → wget (putAll f p out H) b = rnO f (wget out k)
  | [], out, H, k, b, _, _, h, _ => by simp at h
  | a :: p, [], H, k, b, _, hl, _, _ => by simp at hl
  | a :: p, x :: out, H, 0, b, hp, hl, h, hb => by
    simp only [List.getElem?_cons_zero, Option.some.injEq] at h
    subst h
    rw [List.nodup_cons] at hp
    simp only [putAll]
    rw [putAll_skip p out _ a hp.1, wget_put, if_pos ⟨rfl, hb⟩]
    rfl
  | a :: p, x :: out, H, k + 1, b, hp, hl, h, hb => by
    simp only [List.getElem?_cons_succ] at h
    rw [List.nodup_cons] at hp
    simp only [List.length_cons] at hl
    simp only [putAll]
    rw [putAll_get p out _ k b hp.2 (by omega) h (by rw [wput_len]; exact hb)]
    rfl

theorem wget_drop : ∀ (out : WH) (n k : Nat), wget (out.drop n) k = wget out (n + k)
  | out, 0, k => by simp
  | [], n + 1, k => by simp [wget]
  | x :: out, n + 1, k => by
    rw [List.drop_succ_cons, wget_drop out n k, Nat.add_right_comm]
    rfl
theorem wget_map {f : Nat → Option Nat} : ∀ (out : WH) (k : Nat), wget (out.map (rnO f)) k = rnO f (wget out k)
  | [], k => by simp [wget, rnO]
  | x :: out, 0 => by simp [wget]
  | x :: out, k + 1 => by simp [wget, wget_map out k]

/-- Whose a name is, on the way back. -/
def cls (n0 : Nat) (p : List Nat) (i : Nat) : Nat ⊕ Nat := match ixOf p i with
  | some k => .inl k
  | none => if i < n0 then .inr i else .inl (p.length + (i - n0))

def openI (ι ιc : VI) (n0 : Nat) (p : List Nat) : VI := ⟨fun i => match cls n0 p i with
    | .inl k => ιc k
    | .inr i => ι i, fun i => match cls n0 p i with
    | .inl k => ιc.sol k
    | .inr i => ι.sol i, fun i => match cls n0 p i with
    | .inl k => ιc.gone k
    | .inr i => ι.gone i, fun i => match cls n0 p i with
    | .inl k => ιc.dim k
    | .inr i => ι.dim i⟩

section
variable {R : Nat → Prop} {ι : VI} {H : WH} {M : Heap} (s : VS R ι H M) {p : List Nat} (hp : p.Nodup) (hl : ∀ b, b ∈ p → b < H.length) {out : WH} (ho : p.length ≤ out.length)
include hp hl

theorem cls_mem {i k : Nat} (h : p[k]? = some i) : cls H.length p i = .inl k := by simp [cls, ixOf_of_get hp h]
theorem cls_inl {i k : Nat} (h : cls H.length p i = .inl k) : (p[k]? = some i ∧ i < H.length) ∨ (i ∉ p ∧ H.length ≤ i ∧ k = p.length + (i - H.length)) := by
  unfold cls at h
  cases e : ixOf p i with
  | some k' =>
    rw [e] at h
    simp only [Sum.inl.injEq] at h
    subst h
    have := ixOf_get e
    exact .inl ⟨this, hl i (List.mem_of_getElem? this)⟩
  | none =>
    rw [e] at h
    simp only at h
    split at h
    · cases h
    · simp only [Sum.inl.injEq] at h
      exact .inr ⟨ixOf_none e, by omega, h.symm⟩
theorem cls_inr {i i' : Nat} (h : cls H.length p i = .inr i') : i' = i ∧ i ∉ p ∧ i < H.length := by
  unfold cls at h
  cases e : ixOf p i with
  | some k' => rw [e] at h; cases h
  | none =>
    rw [e] at h
    simp only at h
    split at h
    · simp only [Sum.inr.injEq] at h
      exact ⟨h.symm, ixOf_none e, by assumption⟩
    · cases h
theorem cls_inj {i i' k : Nat} (h : cls H.length p i = .inl k) (h' : cls H.length p i' = .inl k) : i = i' := by
  rcases cls_inl hp hl h with ⟨h1, _⟩ | ⟨_, h2, h3⟩ <;> rcases cls_inl hp hl h' with ⟨h1', _⟩ | ⟨_, h2', h3'⟩
  · rw [h1] at h1'
    exact Option.some.inj h1'
  · have := (List.getElem?_eq_some_iff.1 h1).1
    omega
  · have := (List.getElem?_eq_some_iff.1 h1').1
    omega
  · omega
theorem cls_back {k i : Nat} (h : back p H.length k = some i) : cls H.length p i = .inl k := by
  unfold back at h
  cases e : p[k]? with
  | some b =>
    rw [e] at h
    obtain rfl := Option.some.inj h
    exact cls_mem hp hl e
  | none =>
    rw [e] at h
    simp only [Option.some.injEq] at h
    have hk : p.length ≤ k := by
      rw [List.getElem?_eq_none_iff] at e
      exact e
    unfold cls
    have hn : ixOf p i = none := by
      cases e' : ixOf p i with
      | none => rfl
      | some k' =>
        have := hl i (List.mem_of_getElem? (ixOf_get e'))
        omega
    rw [hn]
    simp only
    rw [if_neg (by omega)]
    congr 1
    omega

include ho
theorem openH_get (i : Nat) : wget (openH H p out) i = match cls H.length p i with
    | .inl k => rnO (back p H.length) (wget out k)
    | .inr i => wget H i := by
  unfold openH
  rw [wget_app, putAll_len]
  cases h : cls H.length p i with
  | inl k =>
    rcases cls_inl hp hl h with ⟨h1, h2⟩ | ⟨_, h2, rfl⟩
    · rw [if_pos h2]
      simp only
      exact putAll_get p out H k i hp ho h1 h2
    · rw [if_neg (by omega)]
      simp only
      rw [wget_map, wget_drop]
  | inr i' =>
    obtain ⟨rfl, h2, h3⟩ := cls_inr hp hl h
    rw [if_pos h3]
    exact putAll_skip p out H _ h2

theorem openH_len : (openH H p out).length = H.length + (out.length - p.length) := by
  unfold openH
  simp [putAll_len]

/-- Memory comes back. -/
theorem open_ok {R' : Nat → Prop} (hR' : ∀ j, R' j ↔ R j ∨ (own ι j ∧ ¬ own (pickI ι p) j)) {ιc : VI} {M' : Heap} {blks : WH} (s : VS R ι H M) (sc : VS R' ιc out M') (kc : Stp p.length (List.range p.length) (pickI ι p) blks M ιc out M') (hpl : ∀ b, b ∈ p → ∃ x, wget H b = some x) (hbk : ∀ k b, p[k]? = some b → (∃ x, wget blks k = some x) → ∃ x, wget H b = some x) :
    VS R (openI ι ιc H.length p) (openH H p out) M' ∧ Stp H.length p ι H M (openI ι ιc H.length p) (openH H p out) M' ∧ ∀ v a, VL M' (OR R' ιc) ιc v a → VL M' (OR R (openI ι ιc H.length p)) (openI ι ιc H.length p) (rn (back p H.length) v) a := by
  have hinl : ∀ {i k}, cls H.length p i = .inl k → (openI ι ιc H.length p) i = ιc k ∧ (openI ι ιc H.length p).sol i = ιc.sol k ∧ (openI ι ιc H.length p).gone i = ιc.gone k ∧ (openI ι ιc H.length p).dim i = ιc.dim k := fun h => by simp [openI, h]
  have hinr : ∀ {i i'}, cls H.length p i = .inr i' → (openI ι ιc H.length p) i = ι i ∧ (openI ι ιc H.length p).sol i = ι.sol i ∧ (openI ι ιc H.length p).gone i = ι.gone i ∧ (openI ι ιc H.length p).dim i = ι.dim i := fun h => by
    obtain ⟨rfl, _⟩ := cls_inr hp hl h
    simp [openI, h]
  have hget := openH_get (out := out) hp hl ho
  have hlen := openH_len (out := out) hp hl ho
  have hold : ∀ {i}, i ∉ p → i < H.length → cls H.length p i = .inr i := fun {i} h1 h2 => by
    cases h : cls H.length p i with
    | inl k =>
      rcases cls_inl hp hl h with ⟨h3, _⟩ | ⟨_, h3, _⟩
      · exact absurd (List.mem_of_getElem? h3) h1
      · omega
    | inr i' => rw [(cls_inr hp hl h).1]
  have aci : ∀ {i k}, cls H.length p i = .inl k → act (openI ι ιc H.length p) (openH H p out) i → act ιc out k := fun h ha => by
    rcases ha with ⟨x, ha⟩ | ha
    · rw [hget, h] at ha
      obtain ⟨z, hz, _⟩ := rnO_some ha
      exact .inl ⟨z, hz⟩
    · rw [(hinl h).2.2.1] at ha
      exact .inr ha
  have aco : ∀ {i i'}, cls H.length p i = .inr i' → act (openI ι ιc H.length p) (openH H p out) i → act ι H i := fun h ha => by
    rcases ha with ⟨x, ha⟩ | ha
    · obtain ⟨rfl, _⟩ := cls_inr hp hl h
      rw [hget, h] at ha
      exact .inl ⟨x, ha⟩
    · rw [(hinr h).2.2.1] at ha
      exact .inr ha
  -- what is the caller's alone
  have npick : ∀ {i j}, i ∉ p → act ι H i → ι i = some j → ¬ own (pickI ι p) j := fun {i j} h1 h2 h3 h4 => by
    obtain ⟨b, q1, q2, q3⟩ := pick_own h4
    have := s.inj b i j (.inr q3) h2 q2 h3 (.inl q3)
    subst this
    exact h1 q1
  have stays : ∀ {i j}, i ∉ p → act ι H i → ι i = some j → M'.get j = M.get j ∧ ¬ own ιc j := fun {i j} h1 h2 h3 => kc.keep.get j (s.lt i j h3).2 (npick h1 h2 h3)
  have sub : ∀ j, own (pickI ι p) j → own ι j := fun j h => by
    obtain ⟨b, _, h3, h4⟩ := pick_own h
    exact ⟨b, h3, h4⟩
  have ownO : ∀ j, own (openI ι ιc H.length p) j → own ιc j ∨ (∃ i, i ∉ p ∧ i < H.length ∧ ι i = some j ∧ ι.gone i = false) := fun j ⟨i, h1, h2⟩ => by
    cases h : cls H.length p i with
    | inl k =>
      rw [(hinl h).1] at h1
      rw [(hinl h).2.2.1] at h2
      exact .inl ⟨k, h1, h2⟩
    | inr i' =>
      obtain ⟨rfl, q1, q2⟩ := cls_inr hp hl h
      rw [(hinr h).1] at h1
      rw [(hinr h).2.2.1] at h2
      exact .inr ⟨i', q1, q2, h1, h2⟩
  have hOO : ∀ j, OR R (openI ι ιc H.length p) j → OR R' ιc j := fun j h => by
    rcases h with h | h
    · rcases ownO j h with h | ⟨i, q1, q2, q3, q4⟩
      · exact .inl h
      · exact .inr ((hR' j).2 (.inr ⟨⟨i, q3, q4⟩, npick q1 (.inr q4) q3⟩))
    · exact .inr ((hR' j).2 (.inl h))
  have hkeep : Keeps M (own ι) M' (own (openI ι ιc H.length p)) := ⟨kc.keep.next, fun b hb h => by
    obtain ⟨e1, e2⟩ := kc.keep.get b hb (fun k => h (sub b k))
    refine ⟨e1, fun k => ?_⟩
    rcases ownO b k with k | ⟨i, q1, q2, q3, q4⟩
    · exact e2 k
    · exact h ⟨i, q3, q4⟩⟩
  have hle : ∀ S, VI.Le ι (openI ι ιc H.length p) S := fun S i _ => by
    by_cases hi : i ∈ p
    · obtain ⟨k, hk⟩ := List.mem_iff_getElem?.1 hi
      have hc := cls_mem hp hl hk
      have hkl := (List.getElem?_eq_some_iff.1 hk).1
      obtain ⟨e1, e2, e3, e4⟩ := hinl hc
      have := kc.le k hkl
      simp only [pickI, hk] at this
      rw [e1, e2, e4]
      exact this
    · by_cases hlt : i < H.length
      · obtain ⟨e1, e2, e3, e4⟩ := hinr (hold hi hlt)
        rw [e1, e2, e4]
        exact ⟨fun _ h => ⟨h, fun _ h => h⟩, fun h => ⟨h, fun _ h => h⟩⟩
      · exact ⟨fun j h => absurd (s.lt i j h).1 hlt, fun h => absurd (s.solt i h).1 hlt⟩
  have hvia : Via (back p H.length) ιc (openI ι ιc H.length p) := fun k i h => by
    obtain ⟨e1, e2, e3, e4⟩ := hinl (cls_back hp hl h)
    rw [e1, e2, e4]
    exact ⟨fun _ h => h, fun h => h, fun _ h => h⟩
  have hkO : Keeps M' (OR R' ιc) M' (OR R (openI ι ιc H.length p)) := ⟨Nat.le_refl _, fun b _ h => ⟨rfl, fun k => h (hOO b k)⟩⟩
  refine ⟨⟨fun i j h => ?_, fun i i' j h h' e e' g => ?_, fun i x hx => ?_, fun i h => ?_, fun i hi c sl h => ?_, sc.okM, fun j h => ⟨?_, fun i hi => ?_⟩⟩, ⟨hkeep, hle _, fun i hi h => ?_, fun i hi => ?_, fun i hi => ?_, fun i hi h => ?_, fun i hi h => ?_, fun i j hi h hj hn => ?_, by rw [hlen]; omega⟩, fun v a h => VL.rn hkO hvia v a h⟩
  · rw [hlen]
    cases hc : cls H.length p i with
    | inl k =>
      rw [(hinl hc).1] at h
      obtain ⟨q1, q2⟩ := sc.lt k j h
      refine ⟨?_, q2⟩
      rcases cls_inl hp hl hc with ⟨_, h2⟩ | ⟨_, h2, rfl⟩ <;> omega
    | inr i' =>
      rw [(hinr hc).1] at h
      obtain ⟨q1, q2⟩ := s.lt i j h
      exact ⟨by omega, Nat.lt_of_lt_of_le q2 kc.keep.next⟩
  · cases hc : cls H.length p i with
    | inl k =>
      cases hc' : cls H.length p i' with
      | inl k' =>
        rw [(hinl hc).1] at e
        rw [(hinl hc').1] at e'
        rw [(hinl hc).2.2.1, (hinl hc').2.2.1] at g
        have := sc.inj k k' j (aci hc h) (aci hc' h') e e' g
        subst this
        exact cls_inj hp hl hc hc'
      | inr i2 =>
        exfalso
        obtain ⟨rfl, q1, q2⟩ := cls_inr hp hl hc'
        have ha := aco hc' h'
        rw [(hinl hc).1] at e
        rw [(hinr hc').1] at e'
        rw [(hinl hc).2.2.1, (hinr hc').2.2.1] at g
        rcases g with g | g
        · exact (stays q1 ha e').2 ⟨k, e, g⟩
        · exact (sc.res j ((hR' j).2 (.inr ⟨⟨i2, e', g⟩, npick q1 ha e'⟩))).2 k (aci hc h) e
    | inr i1 =>
      obtain ⟨rfl, q1, q2⟩ := cls_inr hp hl hc
      have ha := aco hc h
      rw [(hinr hc).1] at e
      cases hc' : cls H.length p i' with
      | inl k' =>
        exfalso
        rw [(hinl hc').1] at e'
        rw [(hinr hc).2.2.1, (hinl hc').2.2.1] at g
        rcases g with g | g
        · exact (sc.res j ((hR' j).2 (.inr ⟨⟨i1, e, g⟩, npick q1 ha e⟩))).2 k' (aci hc' h') e'
        · exact (stays q1 ha e).2 ⟨k', e', g⟩
      | inr i2 =>
        obtain ⟨rfl, q1', q2'⟩ := cls_inr hp hl hc'
        rw [(hinr hc').1] at e'
        rw [(hinr hc).2.2.1, (hinr hc').2.2.1] at g
        exact s.inj i1 i2 j ha (aco hc' h') e e' g
  · cases hc : cls H.length p i with
    | inl k =>
      rw [hget, hc] at hx
      obtain ⟨z, hz, rfl⟩ := rnO_some hx
      obtain ⟨e1, e2, e3, e4⟩ := hinl hc
      rw [e1, e2, e3, e4, rnB_ro]
      rcases sc.blk k z hz with ⟨h1, h2, ro, rfl⟩ | ⟨j, h1, h2, h3⟩
      · exact .inl ⟨h1, h2, ro, rfl⟩
      · exact .inr ⟨j, h1, BL.rn hkO hvia h2, h3⟩
    | inr i' =>
      obtain ⟨rfl, q1, q2⟩ := cls_inr hp hl hc
      rw [hget, hc] at hx
      obtain ⟨e1, e2, e3, e4⟩ := hinr hc
      rw [e1, e2, e3, e4]
      rcases s.blk i' x hx with h | ⟨j, h1, h2, h3⟩
      · exact .inl h
      · refine .inr ⟨j, h1, ?_, h3⟩
        rw [(stays q1 (.inl ⟨x, hx⟩) h1).1]
        exact h2.mono (hkeep.or R) hle (fun _ h => h)
  · rw [hlen]
    cases hc : cls H.length p i with
    | inl k =>
      rw [(hinl hc).2.1] at h
      rw [(hinl hc).1]
      obtain ⟨q1, q2⟩ := sc.solt k h
      refine ⟨?_, q2⟩
      rcases cls_inl hp hl hc with ⟨_, h2⟩ | ⟨_, h2, rfl⟩ <;> omega
    | inr i' =>
      rw [(hinr hc).2.1] at h
      rw [(hinr hc).1]
      obtain ⟨q1, q2⟩ := s.solt i h
      exact ⟨by omega, q2⟩
  · cases hc : cls H.length p i with
    | inl k =>
      rw [(hinl hc).2.2.1] at hi
      rw [hget, hc] at h
      obtain ⟨z, hz, h2⟩ := rnO_some h
      have hr := rnB_ro (back p H.length) z
      rw [← h2] at hr
      cases z with
      | cells c' ro sl' =>
        simp only [Blk.ro] at hr
        subst hr
        exact sc.ice k hi c' sl' hz
      | map es => cases h2
    | inr i' =>
      obtain ⟨rfl, q1, q2⟩ := cls_inr hp hl hc
      rw [(hinr hc).2.2.1] at hi
      rw [hget, hc] at h
      exact s.ice i' hi c sl h
  · exact Nat.lt_of_lt_of_le (s.res j h).1 kc.keep.next
  · cases hc : cls H.length p i with
    | inl k =>
      rw [(hinl hc).1]
      exact (sc.res j ((hR' j).2 (.inl h))).2 k (aci hc hi)
    | inr i' =>
      rw [(hinr hc).1]
      exact (s.res j h).2 i (aco hc hi)
  · by_cases hm : i ∈ p
    · obtain ⟨k, hk⟩ := List.mem_iff_getElem?.1 hm
      rw [(hinl (cls_mem hp hl hk)).2.2.1]
      refine kc.gone k (List.getElem?_eq_some_iff.1 hk).1 ?_
      simp only [pickI, hk]
      exact h
    · rw [(hinr (hold hm hi)).2.2.1]
      exact h
  · by_cases hm : i ∈ p
    · obtain ⟨k, hk⟩ := List.mem_iff_getElem?.1 hm
      rw [(hinl (cls_mem hp hl hk)).1, kc.toq k (List.getElem?_eq_some_iff.1 hk).1]
      simp only [pickI, hk]
    · rw [(hinr (hold hm hi)).1]
  · by_cases hm : i ∈ p
    · obtain ⟨k, hk⟩ := List.mem_iff_getElem?.1 hm
      rw [(hinl (cls_mem hp hl hk)).2.2.2, kc.dimq k (List.getElem?_eq_some_iff.1 hk).1]
      simp only [pickI, hk]
    · rw [(hinr (hold hm hi)).2.2.2]
  · by_cases hm : i ∈ p
    · obtain ⟨x, hx⟩ := hpl i hm
      rw [h] at hx
      cases hx
    · rw [(hinr (hold hm hi)).2.2.1]
  · obtain ⟨x, h⟩ := h
    by_cases hm : i ∈ p
    · obtain ⟨k, hk⟩ := List.mem_iff_getElem?.1 hm
      rw [hget, cls_mem hp hl hk] at h
      obtain ⟨z, hz, _⟩ := rnO_some h
      exact hbk k i hk (kc.live k (List.getElem?_eq_some_iff.1 hk).1 ⟨z, hz⟩)
    · rw [hget, hold hm hi] at h
      exact ⟨x, h⟩
  · exact (stays hn (aco (hold hn hi) h) hj).1
end

mutual
theorem scal_any {M M' : Heap} {O O' : Nat → Prop} {κ κ' : VI} : ∀ (v a : AV), scal v = true → VL M O κ v a → VL M' O' κ' v a
  | .bool _, a, _, h => by simp only [VL] at h ⊢; exact h
  | .int .., a, _, h => by simp only [VL] at h ⊢; exact h
  | .str _, a, _, h => by simp only [VL] at h ⊢; exact h
  | .ptr none, a, _, h => by simp only [VL] at h ⊢; exact h
  | .nilFunc, a, _, h => by simp only [VL] at h ⊢; exact h
  | .slice none s l c e, a, hs, h => by simp only [VL] at h ⊢; exact h
  | .tuple cs, a, hs, h => by
    simp only [scal] at hs
    simp only [VL] at h ⊢
    obtain ⟨cs', e, h⟩ := h
    exact ⟨cs', e, scalL_any cs cs' hs h⟩
  | .agg cs, a, hs, h => by
    simp only [scal] at hs
    simp only [VL] at h ⊢
    obtain ⟨cs', e, h⟩ := h
    exact ⟨cs', e, scalL_any cs cs' hs h⟩
  | .undef, _, hs, _ => by simp [scal] at hs
  | .ptr (some _), _, hs, _ => by simp [scal] at hs
  | .slice (some _) _ _ _ _, _, hs, _ => by simp [scal] at hs
  | .map _, _, hs, _ => by simp [scal] at hs
  | .func _ _, _, hs, _ => by simp [scal] at hs
  | .list .., _, hs, _ => by simp [scal] at hs
  | .elem _, _, hs, _ => by simp [scal] at hs
  | .acc .., _, hs, _ => by simp [scal] at hs
theorem scalL_any {M M' : Heap} {O O' : Nat → Prop} {κ κ' : VI} : ∀ (v a : List AV), scalL v = true → VLL M O κ v a → VLL M' O' κ' v a
  | [], [], _, _ => by simp [VLL]
  | [], _ :: _, _, h => by simp [VLL] at h
  | _ :: _, [], _, h => by simp [VLL] at h
  | v :: r, a :: l, hs, h => by
    simp only [scalL] at hs
    split at hs
    case h_2 => cases hs
    rename_i hv
    simp only [VLL] at h ⊢
    exact ⟨scal_any v a hv h.1, scalL_any r l hs h.2⟩
end

theorem VS.ext {R : Nat → Prop} {ι : VI} {H : WH} {M M' : Heap} (s : VS R ι H M) (hn : M.next ≤ M'.next) (hg : ∀ b, b < M.next → M'.get b = M.get b) (ok : M'.Ok) : VS R ι H M' ∧ Stp H.length [] ι H M ι H M' := by
  have hk : Keeps M (own ι) M' (own ι) := ⟨hn, fun b hb ho => ⟨hg b hb, ho⟩⟩
  refine ⟨⟨fun i j h => ⟨(s.lt i j h).1, Nat.lt_of_lt_of_le (s.lt i j h).2 hn⟩, s.inj, fun i x hx => ?_, s.solt, s.ice, ok, fun j h => ⟨Nat.lt_of_lt_of_le (s.res j h).1 hn, (s.res j h).2⟩⟩, ⟨hk, .refl _ _, fun _ _ h => h, fun _ _ => rfl, fun _ _ => rfl, fun _ _ _ => rfl, fun _ _ h => h, fun i j _ _ hj _ => ?_, Nat.le_refl _⟩⟩
  · rcases s.blk i x hx with h | ⟨j, h1, h2, h3⟩
    · exact .inl h
    refine .inr ⟨j, h1, ?_, h3⟩
    rw [hg j (s.lt i j h1).2]
    exact h2.mono (hk.or R) (fun _ => .refl _ _) (fun _ h => h)
  · exact hg j (s.lt i j hj).2

/-- A call that is lent what it reads, and gives back nothing that bears memory. -/
theorem wLent_ok {C : ACalls} {g : FuncId} {args as : List AV} {R : Nat → Prop} {ι : VI} {H : WH} {M : Heap} (s : VS R ι H M) (hv : VLL M (OR R ι) ι args as) {ms : List (Option Bool)} {ts : List AV} {v : AV}
    (h0 : clo (nrmL ms (retagL args ts) H).2 0 (idsOfL (nrmL ms (retagL args ts) H).1) = []) (hs : scal v = true) (hspec : Spec C g (rnL (ixOf []) (nrmL ms (retagL args ts) H).1) [] v []) :
    ∃ a M', C g as M = some (a, M') ∧ VS R ι H M' ∧ Stp H.length [] ι H M ι H M' ∧ VL M' (OR R ι) ι v a := by
  obtain ⟨ι2, k1, k2, k3⟩ := nrmL_ok ms (retagL args ts) H ι M as s (VLL.retag _ _ _ hv)
  generalize nrmL ms (retagL args ts) H = q at *
  obtain ⟨vs, H2⟩ := q
  simp only at h0 hspec k1 k2 k3
  obtain ⟨p1, p2, _⟩ := clo_ok H2 0 (idsOfL vs)
  rw [h0] at p1 p2
  let R' : Nat → Prop := fun j => R j ∨ (own ι2 j ∧ ¬ own (pickI ι2 []) j)
  have hsub : ∀ j, OR R' (pickI ι2 []) j → OR R ι2 j := fun j h => by
    rcases h with h | h | h
    · obtain ⟨b, _, h3, h4⟩ := pick_own h
      exact .inl ⟨b, h3, h4⟩
    · exact .inr h
    · exact .inl h.1
  have hpick := k1.pick p1 (R' := R') (fun j h => by
    rcases h with h | ⟨⟨i, q1, q2⟩, q3⟩
    · exact ⟨(k1.res j h).1, fun b _ hb => (k1.res j h).2 b hb⟩
    · exact ⟨(k1.lt i j q1).2, fun b hb => (nomatch hb)⟩) hsub
  have hargs : VLL M (OR R' (pickI ι2 [])) (pickI ι2 []) (rnL (ixOf []) vs) as := VLL.rn ⟨Nat.le_refl _, fun b _ h => ⟨rfl, fun k => h (hsub b k)⟩⟩ (by have := @pickI_via; rw [← h0]; exact pickI_via) _ _ k3
  obtain ⟨a, M', ιc, e, q1, q2, q3⟩ := hspec R' (pickI ι2 []) M as hpick hargs
  have hno : ∀ b, ¬ own (pickI ι2 []) b := fun b h => by
    obtain ⟨c, hc, _⟩ := pick_own h
    exact (nomatch hc)
  obtain ⟨e1, e2⟩ := s.ext q2.keep.next (fun b hb => (q2.keep.get b hb (hno b)).1) q1.okM
  exact ⟨a, M', e, e1, e2, scal_any v a hs q3⟩

/-! ### What is lent, where others' blocks come back -/

mutual
theorem clean_any {M M' : Heap} {O O' : Nat → Prop} {κ : VI} : ∀ (v a : AV), clean v = true → VL M O κ v a → VL M' O' κ v a
  | .bool _, a, _, h => by simp only [VL] at h ⊢; exact h
  | .int .., a, _, h => by simp only [VL] at h ⊢; exact h
  | .str _, a, _, h => by simp only [VL] at h ⊢; exact h
  | .ptr none, a, _, h => by simp only [VL] at h ⊢; exact h
  | .ptr (some _), a, _, h => by simp only [VL] at h ⊢; exact h
  | .nilFunc, a, _, h => by simp only [VL] at h ⊢; exact h
  | .slice none s l c e, a, hs, h => by simp only [VL] at h ⊢; exact h
  | .slice (some _) s l c e, a, hs, h => by simp only [VL] at h
  | .map none, a, _, h => by simp only [VL] at h ⊢; exact h
  | .map (some _), a, _, h => by simp only [VL] at h ⊢; exact h
  | .undef, _, _, _ => by simp [VL]
  | .acc .., a, _, h => by simp only [VL] at h ⊢; exact h
  | .tuple cs, a, hs, h => by
    simp only [clean] at hs
    simp only [VL] at h ⊢
    obtain ⟨cs', e, h⟩ := h
    exact ⟨cs', e, cleanL_any cs cs' hs h⟩
  | .agg cs, a, hs, h => by
    simp only [clean] at hs
    simp only [VL] at h ⊢
    obtain ⟨cs', e, h⟩ := h
    exact ⟨cs', e, cleanL_any cs cs' hs h⟩
  | .func f cs, a, hs, h => by
    simp only [clean] at hs
    simp only [VL] at h ⊢
    obtain ⟨cs', e, h⟩ := h
    exact ⟨cs', e, cleanL_any cs cs' hs h⟩
  | .list .., _, hs, _ => by simp [clean] at hs
  | .elem _, _, hs, _ => by simp [clean] at hs
theorem cleanL_any {M M' : Heap} {O O' : Nat → Prop} {κ : VI} : ∀ (v a : List AV), cleanL v = true → VLL M O κ v a → VLL M' O' κ v a
  | [], [], _, _ => by simp [VLL]
  | [], _ :: _, _, h => by simp [VLL] at h
  | _ :: _, [], _, h => by simp [VLL] at h
  | v :: r, a :: l, hs, h => by
    simp only [cleanL] at hs
    split at hs
    case h_2 => cases hs
    rename_i hv
    simp only [VLL] at h ⊢
    exact ⟨clean_any v a hv h.1, cleanL_any r l hs h.2⟩
end

/-- More blocks are others'. -/
theorem VS.moreR {R R' : Nat → Prop} {ι : VI} {H : WH} {M : Heap} (s : VS R ι H M) (hc : ∀ i x, wget H i = some x → ∃ c sl, x = .cells c false sl ∧ cleanL c = true) (h : ∀ j, R' j → R j ∨ (j < M.next ∧ ¬ own ι j)) : VS R' ι H M := by
  refine ⟨s.lt, s.inj, fun i x hx => ?_, s.solt, s.ice, s.okM, fun j hj => ?_⟩
  · rcases s.blk i x hx with h | ⟨j, h1, h2, h3⟩
    · exact .inl h
    obtain ⟨c, sl, rfl, hcl⟩ := hc i x hx
    obtain ⟨c', t, ro', sl', L, e, g0, g1, g2, g3, g4⟩ := h2
    exact .inr ⟨j, h1, ⟨c', t, ro', sl', L, e, g0, g1, g2, cleanL_any c c' hcl g3, g4⟩, h3⟩
  · rcases h j hj with h | ⟨h, ho⟩
    · exact s.res j h
    refine ⟨h, fun i ha hi => ho ⟨i, hi, ?_⟩⟩
    rcases ha with ⟨x, hx⟩ | ha
    · obtain ⟨c, sl, rfl, _⟩ := hc i x hx
      rcases s.blk i _ hx with ⟨q, _⟩ | ⟨j', _, _, q⟩
      · rw [(s.solt i q).2] at hi
        cases hi
      · exact q rfl
    · exact ha

theorem needC_ok : ∀ {out : WH} {k : TS → Prop} {tr : TS}, needC out k tr → (∃ tr', k tr') ∧ ∀ i x, wget out i = some x → ∃ c sl, x = .cells c false sl ∧ cleanL c = true
  | [], k, tr, h => ⟨⟨tr, h⟩, fun i x hx => by simp [wget] at hx⟩
  | none :: r, k, tr, h => by
    obtain ⟨h1, h2⟩ := needC_ok (out := r) h
    refine ⟨h1, fun i x hx => ?_⟩
    cases i with
    | zero => simp [wget] at hx
    | succ i => exact h2 i x hx
  | some (.map _) :: _, k, tr, h => h.elim
  | some (.cells c ro sl) :: r, k, tr, h => by
    have fin : cleanL c = true → ro = false → (∀ i x, wget r i = some x → ∃ c sl, x = .cells c false sl ∧ cleanL c = true) → ∀ i x, wget (some (.cells c ro sl) :: r) i = some x → ∃ c sl, x = .cells c false sl ∧ cleanL c = true := fun hc hr h2 i x hx => by
      cases i with
      | zero =>
        simp only [wget, Option.some.injEq] at hx
        subst hr
        exact ⟨c, sl, hx.symm, hc⟩
      | succ i => exact h2 i x hx
    simp only [needC] at h
    cases ro
    case true => cases sl <;> exact h.elim
    cases sl
    · simp only at h
      split at h
      case h_2 => exact h.elim
      rename_i hc
      obtain ⟨h1, h2⟩ := needC_ok (out := r) h
      exact ⟨h1, fin hc rfl h2⟩
    · obtain ⟨tr', hc, h⟩ := need_ok h
      obtain ⟨h1, h2⟩ := needC_ok (out := r) h
      exact ⟨h1, fin hc rfl h2⟩

theorem apart_ok {S : List Nat} : ∀ {p : List Nat}, apart S p = true → ∀ b ∈ p, hasN S b = false
  | [], _, b, hb => by cases hb
  | a :: p, h, b, hb => by
    simp only [apart] at h
    split at h
    · cases h
    rename_i ha
    rcases List.mem_cons.1 hb with rfl | hb
    · exact ha
    · exact apart_ok h b hb

theorem lendL_live {H : WH} : ∀ {bs : List Bool} {vs : List AV} {q : List AV × List Nat}, lendL H bs vs = some q → ∀ b ∈ q.2, ∃ x, wget H b = some x
  | bs, [], q, h => by
    simp only [lendL, Option.some.injEq] at h
    subst h
    intro b hb
    cases hb
  | bs, v :: r, q, h => by
    simp only [lendL] at h
    split at h
    case h_2 => cases h
    rename_i q' hq
    have i := lendL_live hq
    split at h
    · simp only [Option.some.injEq] at h
      subst h
      exact i
    · split at h
      case h_2 => cases h
      rename_i p hp
      simp only [Option.some.injEq] at h
      subst h
      intro b hb
      rcases List.mem_append.1 hb with hb | hb
      · exact frz_live 5 false v p hp b hb
      · exact i b hb

theorem lendL_rel {R : Nat → Prop} {ι : VI} {H : WH} {M : Heap} (s : VS R ι H M) (S : List Nat) (hS : ∀ b ∈ S, ∃ x, wget H b = some x) : ∀ {bs : List Bool} {vs as : List AV} {q : List AV × List Nat}, lendL H bs vs = some q → (∀ b ∈ q.2, b ∈ S) → VLL M (OR R ι) ι vs as → VLL M (OR R (ι.ice S)) (ι.ice S) q.1 as
  | bs, [], as, q, h, _, hv => by
    simp only [lendL, Option.some.injEq] at h
    subst h
    cases as with
    | nil => simp [VLL]
    | cons => simp [VLL] at hv
  | bs, v :: r, as, q, h, hq, hv => by
    cases as with
    | nil => simp [VLL] at hv
    | cons a as =>
    simp only [VLL] at hv
    simp only [lendL] at h
    split at h
    case h_2 => cases h
    rename_i q' hq'
    obtain ⟨_, h2⟩ := s.iced S hS
    split at h
    · simp only [Option.some.injEq] at h
      subst h
      simp only [VLL]
      exact ⟨VL.step s h2 hv.1, lendL_rel s S hS hq' hq hv.2⟩
    · split at h
      case h_2 => cases h
      rename_i p hp
      simp only [Option.some.injEq] at h
      subst h
      simp only [VLL]
      refine ⟨?_, lendL_rel s S hS hq' (fun b hb => hq b (List.mem_append_right _ hb)) hv.2⟩
      refine frz_ok s (O' := OR R (ι.ice S)) (fun j h => h.imp own_ice id) (κ' := ι.ice S) (ice_le _ _ _) 5 false v p a hp hv.1 (fun b hb j hj => ?_)
      have lv := frz_live 5 false v p hp b hb
      rintro (⟨i, q1, q2⟩ | hR)
      · simp only [VI.ice, Bool.or_eq_false_iff] at q1 q2
        have := s.inj i b j (.inr q2.1) (.inl lv) q1 hj (.inl q2.1)
        subst this
        rw [hasN_iff.2 (hq i (List.mem_append_left _ hb))] at q2
        cases q2.2
      · exact (s.res j hR).2 b (.inl lv) hj

theorem wLend_ok {C : ACalls} {g : FuncId} {vs0 as : List AV} {R : Nat → Prop} {ι : VI} {H : WH} {M : Heap} (s : VS R ι H M) (hv : VLL M (OR R ι) ι vs0 as) {ls : List Bool} {q : List AV × List Nat} (hq : lendL H ls vs0 = some q) {p : List Nat}
    (hp : clo (wice H q.2) 0 (idsOfL q.1) = p) {v : AV} {out : WH} (ho : p.length ≤ out.length) (ha : apart q.2 p = true) (hc : clean v = true) (hco : ∀ i x, wget out i = some x → ∃ c sl, x = .cells c false sl ∧ cleanL c = true)
    (hspec : Spec C g (rnL (ixOf p) q.1) (closeH (wice H q.2) p p) v out) :
    ∃ a M' ι', C g as = (fun M => C g as M) ∧ C g as M = some (a, M') ∧ VS R ι' (openH H p out) M' ∧ Stp H.length p ι H M ι' (openH H p out) M' ∧ VL M' (OR R ι') ι' (rn (back p H.length) v) a := by
  have hlive := lendL_live hq
  obtain ⟨k1, k2⟩ := s.iced q.2 hlive
  have k3 := lendL_rel s q.2 hlive hq (fun _ h => h) hv
  obtain ⟨p1, p2, _⟩ := clo_ok (wice H q.2) 0 (idsOfL q.1)
  rw [hp] at p1 p2
  have hap := apart_ok ha
  have hpk : pickI (ι.ice q.2) p = pickI ι p := by
    unfold pickI VI.ice
    congr 1
    funext k
    cases e : p[k]? with
    | none => rfl
    | some b =>
      simp only
      rw [hap b (List.mem_of_getElem? e), Bool.or_false]
  have hpl : ∀ b, b ∈ p → ∃ x, wget H b = some x := fun b hb => by
    obtain ⟨y, hy⟩ := (p2 b hb).resolve_left (by omega)
    rw [wice_get] at hy
    split at hy
    · obtain ⟨z, hz, _⟩ := iceB_some hy
      exact ⟨z, hz⟩
    · exact ⟨y, hy⟩
  have hl : ∀ b, b ∈ p → b < H.length := fun b hb => by
    obtain ⟨x, hx⟩ := hpl b hb
    exact wget_lt hx
  let R' : Nat → Prop := fun j => R j ∨ (own (ι.ice q.2) j ∧ ¬ own (pickI (ι.ice q.2) p) j)
  have hsub : ∀ j, OR R' (pickI (ι.ice q.2) p) j → OR R (ι.ice q.2) j := fun j h => by
    rcases h with h | h | h
    · obtain ⟨b, _, h3, h4⟩ := pick_own h
      exact .inl ⟨b, h3, h4⟩
    · exact .inr h
    · exact .inl h.1
  have hpick := k1.pick p1 (R' := R') (fun j h => by
    rcases h with h | ⟨⟨i, q1, q2⟩, q3⟩
    · exact ⟨(k1.res j h).1, fun b _ hb => (k1.res j h).2 b hb⟩
    · refine ⟨(k1.lt i j q1).2, fun b hb ha hj => ?_⟩
      have := k1.inj i b j (.inr q2) ha q1 hj (.inl q2)
      subst this
      obtain ⟨k, hk⟩ := List.mem_iff_getElem?.1 hb
      exact q3 ⟨k, by simp only [pickI, hk]; exact hj, by simp only [pickI, hk]; exact q2⟩) hsub
  have hargs : VLL M (OR R' (pickI (ι.ice q.2) p)) (pickI (ι.ice q.2) p) (rnL (ixOf p) q.1) as := VLL.rn ⟨Nat.le_refl _, fun b _ h => ⟨rfl, fun k => h (hsub b k)⟩⟩ pickI_via _ _ k3
  obtain ⟨a, M', ιc, e, q1, q2, q3⟩ := hspec R' (pickI (ι.ice q.2) p) M as hpick hargs
  rw [closeH_len] at q2
  let R2 : Nat → Prop := fun j => R j ∨ (own ι j ∧ ¬ own (pickI ι p) j)
  have q4 : VS R2 ιc out M' := q1.moreR hco fun j hj => by
    rcases hj with hj | ⟨⟨i, g1, g2⟩, g3⟩
    · exact .inl (.inl hj)
    · have lt := (s.lt i j g1).2
      refine .inr ⟨Nat.lt_of_lt_of_le lt q2.keep.next, (q2.keep.get j lt ?_).2⟩
      rw [hpk]
      exact g3
  have q5 : VL M' (OR R2 ιc) ιc v a := clean_any v a hc q3
  rw [hpk] at q2
  obtain ⟨u1, u2, u3⟩ := open_ok (R := R) (R' := R2) p1 hl ho (fun j => Iff.rfl) s q4 q2 hpl (fun k b hk ⟨x, hx⟩ => hpl b (List.mem_of_getElem? hk))
  exact ⟨a, M', _, rfl, e, u1, u2, u3 v a q5⟩

theorem wCall_ok {C : ACalls} {g : FuncId} {args as : List AV} {R : Nat → Prop} {ι : VI} {H : WH} {M : Heap} (s : VS R ι H M) (hv : VLL M (OR R ι) ι args as) {tr : TS} {k : AV → WH → List Nat → TS → Prop} (h : wCall C g args H tr k) :
    ∃ a M' ι' v H' t tr', C g as M = some (a, M') ∧ VS R ι' H' M' ∧ Stp H.length t ι H M ι' H' M' ∧ VL M' (OR R ι') ι' v a ∧ k v H' t tr' := by
  unfold wCall at h
  split at h
  case h_2 =>
    rename_i ms ls ts v out r
    simp only at h
    obtain ⟨ι1, h1, h2, h3⟩ := nrmL_ok ms (retagL args ts) H ι M as s (VLL.retag _ _ _ hv)
    generalize nrmL ms (retagL args ts) H = q0 at *
    obtain ⟨vs, H1⟩ := q0
    simp only at h h1 h2 h3
    split at h
    case h_2 => exact h.elim
    rename_i q hq
    split at h
    case h_2 => exact h.elim
    rename_i e1 e2 e3
    obtain ⟨⟨tr1, h⟩, hco⟩ := needC_ok h
    obtain ⟨tr', hspec, hk⟩ := need_ok h
    obtain ⟨a, M', ι', _, f1, f2, f3, f4⟩ := wLend_ok h1 h3 hq rfl (Nat.le_of_ble_eq_true e1) e2 e3 hco hspec
    refine ⟨a, M', ι', _, _, _, _, f1, f2, ?_, f4, hk⟩
    exact h2.trans f3 h2.next
  case h_3 =>
    rename_i ms ts v r
    simp only at h
    split at h
    case h_2 => exact h.elim
    rename_i e1 e2
    obtain ⟨tr', h⟩ := need_ok h
    obtain ⟨a, M', f1, f2, f3, f4⟩ := wLent_ok s hv e1 e2 h.1
    exact ⟨a, M', ι, v, H, [], tr', f1, f2, f3, f4, h.2⟩
  case h_4 => exact h.elim
  rename_i ms m ts v out r
  obtain ⟨ι1, h1, h2, h3⟩ := nrmL_ok ms (retagL args ts) H ι M as s (VLL.retag _ _ _ hv)
  generalize hr : nrmL ms (retagL args ts) H = q at *
  obtain ⟨vs, H1⟩ := q
  simp only at h h1 h2 h3
  obtain ⟨ι2, k1, k2⟩ := nrmBs_ok [] m (clo H1 0 (idsOfL vs)) H1 ι1 M h1
  have k3 := VLL.step h1 k2 h3
  generalize nrmBs [] m (clo H1 0 (idsOfL vs)) H1 = H2 at *
  obtain ⟨p1, p2, _⟩ := clo_ok H2 0 (idsOfL vs)
  generalize clo H2 0 (idsOfL vs) = p at *
  split at h
  case h_2 => exact h.elim
  rename_i ho
  have ho := Nat.le_of_ble_eq_true ho
  obtain ⟨tr', hspec, hk⟩ := need_ok h
  have hl : ∀ b, b ∈ p → b < H2.length := fun b hb => by
    rcases p2 b hb with h | ⟨y, h⟩
    · omega
    · exact wget_lt h
  let R' : Nat → Prop := fun j => R j ∨ (own ι2 j ∧ ¬ own (pickI ι2 p) j)
  have hsub : ∀ j, OR R' (pickI ι2 p) j → OR R ι2 j := fun j h => by
    rcases h with h | h | h
    · obtain ⟨b, _, h3, h4⟩ := pick_own h
      exact .inl ⟨b, h3, h4⟩
    · exact .inr h
    · exact .inl h.1
  have hpick := k1.pick p1 (R' := R') (fun j h => by
    rcases h with h | ⟨⟨i, q1, q2⟩, q3⟩
    · exact ⟨(k1.res j h).1, fun b _ hb => (k1.res j h).2 b hb⟩
    · refine ⟨(k1.lt i j q1).2, fun b hb ha hj => ?_⟩
      have := k1.inj i b j (.inr q2) ha q1 hj (.inl q2)
      subst this
      obtain ⟨k, hk⟩ := List.mem_iff_getElem?.1 hb
      exact q3 ⟨k, by simp only [pickI, hk]; exact hj, by simp only [pickI, hk]; exact q2⟩) hsub
  have hargs : VLL M (OR R' (pickI ι2 p)) (pickI ι2 p) (rnL (ixOf p) vs) as := VLL.rn ⟨Nat.le_refl _, fun b _ h => ⟨rfl, fun k => h (hsub b k)⟩⟩ pickI_via _ _ k3
  obtain ⟨a, M', ιc, e, q1, q2, q3⟩ := hspec R' (pickI ι2 p) M as hpick hargs
  rw [closeH_len] at q2
  obtain ⟨u1, u2, u3⟩ := open_ok (R := R) (R' := R') p1 hl ho (fun j => Iff.rfl) k1 q1 q2 (fun b hb => (p2 b hb).resolve_left (by omega)) (fun k b hk ⟨x, hx⟩ => by
    rw [closeH_get, hk] at hx
    obtain ⟨z, hz, _⟩ := rnO_some hx
    exact ⟨z, hz⟩)
  refine ⟨a, M', _, _, _, _, _, e, u1, ?_, u3 v a q3, hk⟩
  have := (h2.trans k2 h2.next).trans u2 (Nat.le_trans h2.next k2.next)
  simpa using this

end Go.Proofs.Ytlcjmchhnbdepaa
end

section
/- W, eleventh part: the operations that make and write. -/
set_option linter.all false
set_option linter.unusedSimpArgs false
namespace Go.Proofs.Ytlcjmchhnbdepaa

/-- A function that is known by itself. -/
def BOk (C : ACalls) (f : FuncId) (b : Bt) : Prop := ∀ (R : Nat → Prop) (ι : VI) (H : WH) (M : Heap) (args as : List AV) (d : Option Nat) (tr : TS) (k : AV → WH → List Nat → TS → Prop), VS R ι H M → VLL M (OR R ι) ι args as → wBt b d args H tr k →
  ∃ a M' ι' v H' t tr', C f as M = some (a, M') ∧ VS R ι' H' M' ∧ Stp H.length t ι H M ι' H' M' ∧ VL M' (OR R ι') ι' v a ∧ k v H' t tr'

theorem ovr_ok {R : Nat → Prop} {d : Option Nat} {x : Option AV} {tr : TS} {k : AV → TS → Prop} (h : ovr d x tr k) : ∃ v u tr', x = some v ∧ k u tr' ∧ ∀ (M : Heap) (O : Nat → Prop) (κ : VI) (a : AV), VL M O κ v a → VL M O κ u a := by
  have plain : ∀ {tr}, (match x with | some v => k v tr | none => False) → ∃ v u tr', x = some v ∧ k u tr' ∧ ∀ (M : Heap) (O : Nat → Prop) (κ : VI) (a : AV), VL M O κ v a → VL M O κ u a := fun {tr} h => by
    cases x with
    | none => exact h.elim
    | some v => exact ⟨v, v, tr, rfl, h, fun _ _ _ _ h => h⟩
  unfold ovr at h
  split at h
  · split at h
    · obtain ⟨tr', h⟩ := need_ok h
      exact ⟨_, _, _, h.1, h.2, fun _ _ _ _ h => h⟩
    · exact plain h
  · split at h
    · split at h
      · rename_i v
        exact ⟨v, _, _, rfl, h, fun _ _ _ _ h => VL.retag _ _ _ h⟩
      · exact h.elim
    · exact plain h
  · exact plain h

theorem ovrC_ok {d : Option Nat} {n : Nat} {cs : List AV} {tr : TS} {k : Nat → List AV → TS → Prop} (h : ovrC d n cs tr k) : ∃ tr', k n cs tr' := by
  unfold ovrC at h
  split at h
  · split at h
    · obtain ⟨_, rfl, h⟩ := need_ok h
      obtain ⟨_, rfl, h⟩ := need_ok h
      exact ⟨_, h⟩
    · exact ⟨_, h⟩
  · exact ⟨_, h⟩

theorem all_flat_none {M : Heap} {O : Nat → Prop} {κ : VI} : ∀ {l r : List AV}, l.all AV.flat = true → VLL M O κ l r → VLL M O VI.none l r
  | [], [], _, _ => by simp [VLL]
  | v :: l, a :: r, h, e => by
    simp only [List.all_cons, Bool.and_eq_true] at h
    simp only [VLL] at e ⊢
    refine ⟨?_, all_flat_none h.2 e.2⟩
    have h1 := h.1
    have e1 := e.1
    cases v with
    | ptr p => cases p <;> simp_all [AV.flat, VL]
    | slice p => cases p <;> simp_all [AV.flat, VL]
    | map p => cases p <;> simp_all [AV.flat, VL]
    | func f cs =>
      cases cs with
      | nil =>
        simp only [VL] at e1 ⊢
        obtain ⟨cs', rfl, e1⟩ := e1
        refine ⟨cs', rfl, ?_⟩
        cases cs' with
        | nil => simp [VLL]
        | cons _ _ => simp [VLL] at e1
      | cons _ _ => simp [AV.flat] at h1
    | _ => simp_all [AV.flat, VL]
  | [], _ :: _, _, e => by simp [VLL] at e
  | _ :: _, [], _, e => by simp [VLL] at e

theorem reps_len (z : List AV) : ∀ n, (reps n z).length = n * z.length
  | 0 => by simp [reps]
  | n + 1 => by simp only [reps, List.length_append, reps_len z n, Nat.add_mul, Nat.one_mul]; omega

section
variable {R : Nat → Prop} {ι : VI} {H : WH} {M : Heap} (s : VS R ι H M) {ρ σ : Nat → AV} (h : ∀ t, VL M (OR R ι) ι (ρ t) (σ t))
include s h

theorem aFill2_rel {sz : Nat} : ∀ {ps : List (Nat × AX)} {cs cs' l : List AV}, (ps.all fun p => p.2.okc) = true → VLL M (OR R ι) ι cs cs' →
    aFill cs (ps.map fun p => (p.1 * sz, sz, (p.2.sub ρ).ev [])) = some l → ∃ l', aFill cs' (ps.map fun p => (p.1 * sz, sz, (p.2.sub σ).ev [])) = some l' ∧ VLL M (OR R ι) ι l l'
  | [], cs, cs', l, _, hr, hf => by
    simp only [List.map_nil, aFill, Option.some.injEq] at hf ⊢
    subst hf
    exact ⟨cs', rfl, hr⟩
  | p :: ps, cs, cs', l, hc, hr, hf => by
    simp only [List.all_cons, Bool.and_eq_true] at hc
    simp only [List.map_cons, aFill] at hf ⊢
    split at hf
    case h_2 => cases hf
    rename_i x hx
    split at hf
    case isFalse => cases hf
    rename_i hle
    obtain ⟨x', hx', hxr⟩ := (ev_rel h hc.1).cells hx
    rw [hx']
    simp only
    rw [if_pos (by rw [← hxr.length, ← hr.length]; exact hle)]
    refine aFill2_rel hc.2 ?_ hf
    exact ((hr.take _).append hxr).append (hr.drop _)

/-- What makes a block. -/
theorem wK_ok {d : Option Nat} {o : KOp} (hc : o.okc = true) {tr : TS} {k : Blk → (Nat → AV) → TS → Prop} (hv : wK d (o.sub ρ) tr k) :
    ∃ c sl mk c' sl' mkA tr', k (.cells c false sl) mk tr' ∧ aK (o.sub σ) [] = some (.cells c' false sl', mkA) ∧ VLL M (OR R ι) (if sl then VI.none else ι) c c' ∧ (sl = false → sl' = false) ∧
      ∀ (M' : Heap) (O : Nat → Prop) (κ : VI) (b j : Nat), κ b = some j → κ.dim b = some (c.length, c'.length) → VL M' O κ (mk b) (mkA.val j) := by
  have mkptr : ∀ (c c' : List AV) (M' : Heap) (O : Nat → Prop) (κ : VI) (b j : Nat), κ b = some j → κ.dim b = some (c.length, c'.length) → VL M' O κ (.ptr (some (b, 0))) (Mk.ptr.val j) := fun c c' M' O κ b j h1 _ => by
    simp only [Mk.val, VL]
    exact ⟨j, h1, rfl⟩
  have mkacc : ∀ (c c' : List AV) (sz n : Nat) (ex : Bool), c.length = n * sz → n * sz ≤ c'.length → ∀ (M' : Heap) (O : Nat → Prop) (κ : VI) (b j : Nat), κ b = some j → κ.dim b = some (c.length, c'.length) → VL M' O κ (.acc b 0 sz n true) ((Mk.slice sz n n ex).val j) := fun c c' sz n ex h0 hL M' O κ b j h1 h2 => by
    simp only [Mk.val, VL]
    exact ⟨_, _, _, _, rfl, Nat.le_refl _, (fun h => by cases h), fun _ => rfl, _, _, h2, by omega, fun _ => ⟨trivial, h0.symm⟩, .inl ⟨j, h1, .inl ⟨rfl, by omega⟩⟩⟩
  cases o with
  | alloc zero =>
    have hz : VLL M (OR R ι) ι zero zero := VLL.const zero hc
    simp only [KOp.sub, wK] at hv
    split at hv
    · split at hv
      · rename_i t r _
        exact ⟨_, false, _, zero, false, .ptr, _, hv, rfl, VLL.retag _ _ _ hz, (fun _ => rfl), mkptr _ _⟩
      · exact ⟨_, false, _, zero, false, .ptr, _, hv, rfl, hz, (fun _ => rfl), mkptr _ _⟩
    · exact ⟨_, false, _, zero, false, .ptr, _, hv, rfl, hz, (fun _ => rfl), mkptr _ _⟩
  | box x =>
    have hx := ev_rel h hc
    simp only [KOp.sub, wK] at hv
    split at hv
    case h_2 => exact hv.elim
    rename_i cs hcs
    obtain ⟨cs', h1, h2⟩ := hx.cells hcs
    exact ⟨cs, false, _, cs', false, .ptr, _, hv, by simp only [KOp.sub, aK, h1, Option.map_some], h2, (fun _ => rfl), mkptr _ _⟩
  | buildSlice sz len zero parts =>
    simp only [KOp.okc, Bool.and_eq_true] at hc
    simp only [KOp.sub, wK, List.map_map] at hv
    split at hv
    case h_2 => exact hv.elim
    rename_i cs hcs
    split at hv
    case h_2 => exact hv.elim
    rename_i hz
    have hz := Nat.eq_of_beq_eq_true hz
    obtain ⟨cs', h1, h2⟩ := aFill2_rel s h hc.2 (VLL.reps (M := M) (O := OR R ι) (κ := ι) hc.1 len) hcs
    have hlen : ∀ {l : List (Nat × Nat × AV)} {c c' : List AV}, aFill c l = some c' → c'.length = c.length := by
      intro l
      induction l with
      | nil => intro c c' e; simp only [aFill, Option.some.injEq] at e; rw [e]
      | cons q l ih =>
        intro c c' e
        simp only [aFill] at e
        split at e
        case h_2 => cases e
        split at e
        case isFalse => cases e
        rename_i hle
        rw [ih e]
        simp only [List.length_append, List.length_take, List.length_drop]
        omega
    have hl := hlen hcs
    rw [reps_len, hz] at hl
    refine ⟨cs, false, _, cs', false, .slice sz len len true, _, hv, ?_, h2, (fun _ => rfl), mkacc _ _ _ _ _ hl (by rw [← h2.length, hl]; exact Nat.le_refl _)⟩
    simp only [KOp.sub, aK, List.map_map]
    have e : (fun p : Nat × AV => (p.1 * sz, sz, p.2)) = fun p => (p.1 * sz, sz, p.2) := rfl
    rw [show (aFill (reps len zero) (parts.map ((fun p => (p.1 * sz, sz, p.2.ev [])) ∘ fun p => (p.1, p.2.sub σ)))) = some cs' from h1]
    rfl
  | makeSlice sz bytes zero l c =>
    simp only [KOp.okc, Bool.and_eq_true] at hc
    have hl := ev_rel h hc.1.2
    have hcc := ev_rel h hc.2
    simp only [KOp.sub, wK] at hv
    split at hv
    case h_2 => exact hv.elim
    rename_i d' n cs r
    split at hv
    case h_2 => exact hv.elim
    split at hv
    case h_2 => exact hv.elim
    rename_i hz hfl
    obtain ⟨_, ⟨e1, e2, e3, e4⟩, hv⟩ := need_ok hv
    obtain ⟨_, rfl, hk⟩ := need_ok hv
    rw [e1] at hl
    rw [e2] at hcc
    have hz := Nat.eq_of_beq_eq_true hz
    refine ⟨_, true, _, reps n zero, false, .slice sz n n true, _, hk, ?_, ?_, (fun h => by cases h), mkacc _ _ _ _ _ (by rw [reps_len, hz]) (by rw [reps_len, hz]; exact Nat.le_refl _)⟩
    · simp only [KOp.sub, aK, hl.eq rfl, hcc.eq rfl, aMakeSlice]
      rw [if_pos (by simp; omega)]
      rfl
    · exact all_flat_none (κ := ι) (by
        have : ∀ n, (reps n zero).all AV.flat = true := fun n => by
          induction n with
          | zero => rfl
          | succ n ih => simp only [reps, List.all_append, hfl, ih, Bool.and_self]
        exact this n) (VLL.reps hc.1.1 n)
  | strBytes x =>
    have hx := ev_rel h hc
    simp only [KOp.sub, wK] at hv
    split at hv
    case h_2 => exact hv.elim
    rename_i t ht
    obtain ⟨_, h1, h2⟩ := need_ok hv
    rw [ht] at hx
    refine ⟨_, true, _, t.map fun b => .int .u8 b.toNat, true, .slice 1 t.length t.length false, _, h2, by simp only [KOp.sub, aK, hx.eq rfl, if_pos h1], ?_, (fun h => by cases h), mkacc _ _ _ _ _ (by simp) (by simp)⟩
    have : ∀ t : List UInt8, VLL M (OR R ι) VI.none (t.map fun b => AV.int .u8 b.toNat) (t.map fun b => AV.int .u8 b.toNat) := fun t => by
      induction t with
      | nil => simp [VLL]
      | cons b t ih => simp only [List.map_cons, VLL, VL]; exact ⟨trivial, ih⟩
    exact this t
  | makeMap => simp [KOp.sub, wK] at hv
end

theorem BL.of {R : Nat → Prop} {ι : VI} {M : Heap} {c c' : List AV} {sl sl' : Bool} (hr : VLL M (OR R ι) (if sl then VI.none else ι) c c') (hs : sl = false → sl' = false) : BL M (OR R ι) ι (some (c.length, c'.length)) (.cells c false sl) (some (.cells c' false sl')) :=
  ⟨c', [], false, sl', c'.length, by simp, fun _ => rfl, rfl, by simp, hr, hs⟩

theorem wrC_len {c cs c' : List AV} {o : Nat} (h : wrC c o cs = some c') : o + cs.length ≤ c.length ∧ c' = c.take o ++ cs ++ c.drop (o + cs.length) ∧ c'.length = c.length := by
  unfold wrC at h
  split at h
  case isFalse => cases h
  rename_i hle
  obtain rfl := Option.some.inj h
  refine ⟨hle, rfl, ?_⟩
  simp only [List.length_append, List.length_take, List.length_drop]
  omega

/-- Writing to a block. -/
theorem write_ok {R : Nat → Prop} {ι : VI} {H : WH} {M : Heap} (s : VS R ι H M) {b j o : Nat} (hb : ι b = some j) {c : List AV} {sl : Bool} (hg : wget H b = some (.cells c false sl)) {cs cs' c' : List AV} (hcs : VLL M (OR R ι) (if sl then VI.none else ι) cs cs') (h : wrC c o cs = some c') :
    ∃ M', M.write j o cs' = some M' ∧ VS R ι (wput H b (some (.cells c' false sl))) M' ∧ Stp H.length [b] ι H M ι (wput H b (some (.cells c' false sl))) M' := by
  obtain ⟨h1, h2, h3⟩ := wrC_len h
  obtain ⟨d, t, ro', sl', L, g1, g2, g3, g4, g5⟩ := s.at hb hg
  obtain ⟨rfl, _⟩ := g2 rfl
  have hl := g5.length
  have hl' := hcs.length
  have e : (d ++ t).take o ++ cs' ++ (d ++ t).drop (o + cs'.length) = (d.take o ++ cs' ++ d.drop (o + cs'.length)) ++ t := by
    rw [List.take_append_of_le_length (by omega), List.drop_append_of_le_length (by omega)]
    simp only [List.append_assoc]
  have hbl : BL M (OR R ι) ι (ι.dim b) (.cells c' false sl) (some (.cells ((d ++ t).take o ++ cs' ++ (d ++ t).drop (o + cs'.length)) false sl')) := by
    refine ⟨d.take o ++ cs' ++ d.drop (o + cs'.length), t, false, sl', L, by rw [e], fun _ => rfl, by rw [h3]; exact g3, ?_, ?_, fun h => s.at_sl hb hg g1 h⟩
    · simp only [List.length_append, List.length_take, List.length_drop] at g4 ⊢
      omega
    · rw [h2, hl']
      exact ((g5.take o).append hcs).append (g5.drop _)
  obtain ⟨q1, q2⟩ := s.put hb hg hbl
  refine ⟨_, ?_, q1, q2⟩
  unfold Heap.write
  rw [g1]
  simp only
  rw [if_pos (by simp only [List.length_append]; omega)]

theorem wStore_ok {R : Nat → Prop} {ι : VI} {H : WH} {M : Heap} (s : VS R ι H M) {n : Nat} {a v a' v' : AV} (ha : VL M (OR R ι) ι a a') (hv : VL M (OR R ι) ι v v') {tr : TS} {k : AV → WH → List Nat → TS → Prop} {C : ACalls} {B : FuncId → Option Bt} {d : Option Nat}
    (h : wN C B d (.store n (.c a) (.c v)) H tr k) : ∃ r M' ι' u H' t tr', aStore n a' v' M = some (r, M') ∧ VS R ι' H' M' ∧ Stp H.length t ι H M ι' H' M' ∧ VL M' (OR R ι') ι' u r ∧ k u H' t tr' := by
  simp only [wN, AX.ev] at h
  split at h
  case h_2 => exact h.elim
  rename_i b off cs hcs
  split at h
  case h_2 => exact h.elim
  rename_i hn
  have hn := Nat.eq_of_beq_eq_true hn
  split at h
  case h_2 => exact h.elim
  split at h
  case h_2 => exact h.elim
  rename_i c sl hg
  simp only [VL] at ha
  obtain ⟨j, hj, rfl⟩ := ha
  obtain ⟨cs', e1, e2⟩ := hv.cells hcs
  have fin : ∀ (ι1 : VI) (H1 : WH) (x c' : List AV) (r : TS), VS R ι1 H1 M → Stp H.length [] ι H M ι1 H1 M → H1.length = H.length → wget H1 b = some (.cells c false sl) → VLL M (OR R ι1) (if sl then VI.none else ι1) x cs' → wrC c off x = some c' → k (.tuple []) (wput H1 b (some (.cells c' false sl))) [b] r →
      ∃ r M' ι' u H' t tr', aStore n (.ptr (some (j, off))) v' M = some (r, M') ∧ VS R ι' H' M' ∧ Stp H.length t ι H M ι' H' M' ∧ VL M' (OR R ι') ι' u r ∧ k u H' t tr' := by
    intro ι1 H1 x c' r s1 k1 hlen hg1 hx hw hk
    have hj1 := ((k1.le b (wget_lt hg)).1 j hj).1
    obtain ⟨M', q1, q2, q3⟩ := write_ok s1 hj1 hg1 hx hw
    refine ⟨.tuple [], M', ι1, .tuple [], _, [b], r, ?_, q2, ?_, by simp [VL, VLL], hk⟩
    · simp only [aStore, e1]
      rw [if_pos (by rw [← e2.length]; exact hn), q1]
      rfl
    · have := k1.trans q3 (by omega)
      simpa using this
  split at h
  · split at h
    · split at h
      case h_2 => exact h.elim
      rename_i c' hw
      exact fin ι H cs c' _ s (.refl _ _ _ _ _ (Nat.le_refl _)) rfl hg e2 hw h
    · obtain ⟨_, h⟩ := need_ok h
      exact fin ι H cs _ _ s (.refl _ _ _ _ _ (Nat.le_refl _)) rfl hg e2 h.1 h.2
  · split at h
    case h_2 => exact h.elim
    rename_i p hp
    split at h
    · exact h.elim
    rename_i hb
    obtain ⟨u1, u2⟩ := s.iced p.2 (frzL_live (fun v p => frz_live 5 true v p) _ _ hp)
    have hx := frzL_ok s hp e2
    have hg1 : wget (wice H p.2) b = some (.cells c false true) := by
      rw [wice_get, hb]
      exact hg
    split at h
    · split at h
      case h_2 => exact h.elim
      rename_i c' hw
      exact fin _ _ p.1 c' _ u1 u2 (wice_len _ _) hg1 hx hw h
    · obtain ⟨_, h⟩ := need_ok h
      exact fin _ _ p.1 _ _ u1 u2 (wice_len _ _) hg1 hx h.1 h.2

/-- The loud operations. 'hB': what is known by itself. -/
theorem wN_ok {C : ACalls} {B : FuncId → Option Bt} (hB : ∀ f b, B f = some b → BOk C f b) {R : Nat → Prop} {ι : VI} {H : WH} {M : Heap} (s : VS R ι H M) {ρ σ : Nat → AV} (h : ∀ t, VL M (OR R ι) ι (ρ t) (σ t)) {d : Option Nat} {o : NOp} (hc : o.okc = true) {tr : TS} {k : AV → WH → List Nat → TS → Prop}
    (hk : wN C B d (o.sub ρ) H tr k) : ∃ a M' ι' v H' t tr', aN C (o.sub σ) [] M = some (a, M') ∧ VS R ι' H' M' ∧ Stp H.length t ι H M ι' H' M' ∧ VL M' (OR R ι') ι' v a ∧ k v H' t tr' := by
  cases o with
  | store n a v =>
    simp only [NOp.okc, Bool.and_eq_true] at hc
    exact wStore_ok s (ev_rel h hc.1) (ev_rel h hc.2) (C := C) (B := B) (d := d) (a := (a.sub ρ).ev []) (v := (v.sub ρ).ev []) (by simpa only [NOp.sub, wN, AX.ev] using hk)
  | call f args =>
    simp only [NOp.okc, Bool.and_eq_true] at hc
    have hf := ev_rel h hc.1
    have ha := evs_rel h hc.2
    simp only [NOp.sub, wN] at hk
    split at hk
    case h_2 => exact hk.elim
    rename_i g caps hg
    rw [hg] at hf
    simp only [VL] at hf
    obtain ⟨caps', hf, hcaps⟩ := hf
    have hargs := ha.append hcaps
    simp only [NOp.sub, aN, aCall, hf]
    split at hk
    · rename_i bt hbt
      obtain ⟨a, M', ι', v, H', tt, tr', q1, q2, q3, q4, q5⟩ := hB g bt hbt R ι H M _ _ d tr _ s hargs hk
      exact ⟨a, M', ι', v, H', tt, tr', q1, q2, q3, q4, q5⟩
    · exact wCall_ok s hargs hk
  | append sz bytes b x =>
    simp only [NOp.okc, Bool.and_eq_true] at hc
    have hs := ev_rel h hc.1
    have hx := ev_rel h hc.2
    simp only [NOp.sub, wN] at hk
    split at hk
    case h_2 => exact hk.elim
    rename_i m new S hel
    split at hk
    case h_2 => exact hk.elim
    rename_i len old H' t hbase
    obtain ⟨_, hk⟩ := ovrC_ok hk
    obtain ⟨tr', hf, hk⟩ := need_ok hk
    obtain ⟨e1, e2, cs', e3, e4⟩ := wElems_ok s hx hel
    obtain ⟨u1, u2⟩ := s.iced S (wElems_live hel)
    obtain ⟨a', M', ι', q1, q2, q3, q4⟩ := append_ok u1 (VL.step s u2 hs) e4 e2 hbase hf
    refine ⟨a', M', ι', _, _, t, tr', ?_, q2, ?_, q4, hk⟩
    · simp only [NOp.sub, aN, e1, if_true, e3, Option.bind_some]
      exact q1
    · rw [wice_len] at q3
      have := u2.trans q3 (Nat.le_refl _)
      simpa using this
  | mapUpdate kd m x v =>
    simp only [NOp.okc, Bool.and_eq_true] at hc
    have hm := ev_rel h hc.1.1
    have hx := ev_rel h hc.1.2
    have hv := ev_rel h hc.2
    simp only [NOp.sub, wN] at hk
    simp only [NOp.sub, aN]
    generalize (m.sub ρ).ev [] = X at *
    generalize (m.sub σ).ev [] = X' at *
    generalize (x.sub ρ).ev [] = Y at *
    generalize (x.sub σ).ev [] = Y' at *
    generalize (v.sub ρ).ev [] = Z at *
    generalize (v.sub σ).ev [] = Z' at *
    split at hk
    case h_2 => exact hk.elim
    rename_i r
    split at hk
    case h_2 => exact hk.elim
    rename_i es cz hg s1 s2 s3 s4
    split at hk
    case h_2 => exact hk.elim
    rename_i es' t
    obtain ⟨tr', hu, hk⟩ := need_ok hk
    obtain ⟨j, rfl, hj, he, hr⟩ := s.map_at hm hg
    obtain rfl := sc_eq s1 hx
    obtain rfl := sc_eq s3 hv
    have hes : scE es' = true := by
      unfold mapUp at hu
      obtain ⟨f, hf, rfl⟩ := Option.map_eq_some_iff.1 hu
      cases f with
      | none => exact scE_push s1 s3 he
      | some q => exact scE_set s1 s3 he
    have hd : ι.dim r = some (0, 0) := by
      rcases s.blk r _ hg with ⟨_, _, _, q⟩ | ⟨_, _, ⟨_, q, _⟩, _⟩
      · cases q
      · exact q
    obtain ⟨q1, q2⟩ := s.putG hr rfl hg (x := .map es') (y := .map es') ⟨rfl, hd, hes⟩
    refine ⟨.tuple [], _, ι, .tuple [], _, [r], tr', ?_, q1, q2, by simp [VL, VLL], hk⟩
    simp only [aMapUpdate, hj, s4, s2]
    rw [if_neg (by simp)]
    unfold mapUp at hu
    obtain ⟨f, hf, rfl⟩ := Option.map_eq_some_iff.1 hu
    rw [hf, Option.bind_some]
    cases f with
    | none => rfl
    | some q => rfl
  | mapDelete kd m x =>
    simp only [NOp.okc, Bool.and_eq_true] at hc
    have hm := ev_rel h hc.1
    have hx := ev_rel h hc.2
    simp only [NOp.sub, wN] at hk
    simp only [NOp.sub, aN]
    generalize (m.sub ρ).ev [] = X at *
    generalize (m.sub σ).ev [] = X' at *
    generalize (x.sub ρ).ev [] = Y at *
    generalize (x.sub σ).ev [] = Y' at *
    split at hk
    case h_2 => exact hk.elim
    rename_i r
    split at hk
    case h_2 => exact hk.elim
    rename_i es hg s1
    split at hk
    case h_2 => exact hk.elim
    rename_i es' t
    obtain ⟨tr', hu, hk⟩ := need_ok hk
    obtain ⟨j, rfl, hj, he, hr⟩ := s.map_at hm hg
    obtain rfl := sc_eq s1 hx
    unfold mapDl at hu
    obtain ⟨f, hf, e⟩ := Option.map_eq_some_iff.1 hu
    have hd : ι.dim r = some (0, 0) := by
      rcases s.blk r _ hg with ⟨_, _, _, q⟩ | ⟨_, _, ⟨_, q, _⟩, _⟩
      · cases q
      · exact q
    have hes : scE es' = true := by
      subst e
      cases f with
      | none => exact he
      | some q => exact scE_erase he
    obtain ⟨q1, q2⟩ := s.putG hr rfl hg (x := .map es') (y := .map es') ⟨rfl, hd, hes⟩
    refine ⟨.tuple [], _, ι, .tuple [], _, [r], tr', ?_, q1, q2, by simp [VL, VLL], hk⟩
    simp only [aMapDelete, hj]
    rw [hf, Option.bind_some]
    subst e
    cases f with
    | none =>
      have hM : M.put j (some (.map es)) = M := by
        cases M with
        | mk g nx =>
          simp only [Heap.put, Heap.mk.injEq, and_true]
          funext i
          split
          · rename_i e
            rw [e]
            exact hj.symm
          · rfl
      simp only [hM]
    | some q => rfl
  | cvBytes x =>
    have hx := ev_rel h hc
    simp only [NOp.sub, wN] at hk
    split at hk
    case h_2 => exact hk.elim
    rename_i b sz n hX
    split at hk
    case h_2 => exact hk.elim
    rename_i c sl hg
    split at hk
    case h_2 => exact hk.elim
    rename_i hflat
    rw [hX] at hx
    have hx0 := hx
    obtain ⟨k1, k2, p, s', cap, ex, ha, k3, k4, k5⟩ := VL.acc_at s hx hg
    rw [ha] at hx0
    rcases k5 with ⟨j, c', t, ro', sl', L, g1, g2, g3, g4, g5, g6, rfl, g7⟩ | ⟨e, _⟩
    · obtain ⟨rfl, _⟩ := g3 rfl
      have g6' : VLL M (OR R ι) VI.none c c' := by
        cases sl with
        | true => exact g6
        | false => exact all_flat_none (by simpa using hflat) g6
      obtain ⟨r1, r2⟩ := s.put g1 hg (x := .cells c false true) (y := .cells (c' ++ t) false true) ⟨c', t, false, true, L, rfl, fun _ => rfl, g4, g5, g6', fun h => by cases h⟩
      refine ⟨_, _, ι, _, _, [b], _, ?_, r1, r2, VL.step s r2 hx0, hk⟩
      simp only [NOp.sub, aN, ha, aCvBytes]
      rw [if_neg (by omega), g2]
    · cases e
  | _ => simp [NOp.sub, wN] at hk

end Go.Proofs.Ytlcjmchhnbdepaa
end

section
/- W, twelfth part: regions. -/
set_option linter.all false
set_option linter.unusedSimpArgs false
namespace Go.Proofs.Ytlcjmchhnbdepaa

def EnvR (R : Nat → Prop) (ι : VI) (M : Heap) (l lA : Fast) : Prop := ∀ t, VL M (OR R ι) ι (look l t) (look lA t)

theorem EnvR.step {R : Nat → Prop} {t : List Nat} {ι ι' : VI} {H H' : WH} {M M' : Heap} (s : VS R ι H M) (k : Stp H.length t ι H M ι' H' M') {l lA : Fast} (h : EnvR R ι M l lA) : EnvR R ι' M' l lA := fun t => VL.step s k (h t)

theorem look_cons2 {u t : Nat} {v : AV} {r : Fast} : look ((u, v) :: r) t = if u = t then v else look r t := by
  simp only [look]
  cases h : Nat.beq u t with
  | true => simp [Nat.eq_of_beq_eq_true h]
  | false =>
    have : u ≠ t := fun e => by subst e; simp at h
    simp [this]

theorem look_bput (n : Nat) (d : Option Nat) (v : AV) (l : Fast) (t : Nat) : look (bput n d v l) t = if d = some t ∧ t < n then v else look l t := by
  cases d with
  | none => simp [bput]
  | some d =>
    simp only [bput]
    cases hb : Nat.blt d n with
    | true =>
      have hd : d < n := by simpa [Nat.blt_eq] using hb
      simp only [look_cons2]
      by_cases he : d = t
      · subst he
        simp [hd]
      · simp [he]
    | false =>
      have hd : ¬ d < n := fun h => by
        have : Nat.blt d n = true := by simpa [Nat.blt_eq] using h
        rw [hb] at this
        cases this
      simp only
      rw [if_neg]
      rintro ⟨h1, h2⟩
      obtain rfl := Option.some.inj h1
      exact hd h2

theorem VL.bput {M : Heap} {O : Nat → Prop} {κ : VI} {l lA : Fast} {n : Nat} {d : Option Nat} {v a : AV} {t : Nat} (h : VL M O κ (look l t) (look lA t)) (hv : VL M O κ v a) : VL M O κ (look (Proofs.Ytlcjmchhnbdepaa.bput n d v l) t) (look (Proofs.Ytlcjmchhnbdepaa.bput n d a lA) t) := by
  rw [look_bput, look_bput]
  split
  · exact hv
  · exact h

theorem EnvR.put {R : Nat → Prop} {ι : VI} {M : Heap} {l lA : Fast} (h : EnvR R ι M l lA) (n : Nat) (d : Option Nat) {v a : AV} (hv : VL M (OR R ι) ι v a) : EnvR R ι M (bput n d v l) (bput n d a lA) := fun t => VL.bput (h t) hv

theorem VL.unit {M : Heap} {O : Nat → Prop} {κ : VI} : VL M O κ (.tuple []) (.tuple []) := by simp [VL, VLL]

/-- What the trace parts is the same environment. -/
def LikeE (l l' : Fast) : Prop := ∀ t, look l' t = look l t ∨ ∃ b, look l t = .bool b ∧ look l' t = .bool b

theorem LikeE.eq {l l' : Fast} (h : LikeE l l') (t : Nat) : look l' t = look l t := (h t).elim id fun ⟨b, h1, h2⟩ => by rw [h1, h2]

theorem wput_self : ∀ {H : WH} {b : Nat} {x : Blk}, wget H b = some x → wput H b (some x) = H
  | [], _, _, h => by cases h
  | _ :: _, 0, _, h => by
    simp only [wget] at h
    subst h
    rfl
  | _ :: r, i + 1, _, h => by
    simp only [wget] at h
    simp only [wput, wput_self h]

/-- What stands ahead of a step changes nothing. -/
theorem wPre_ok {k : Fast → WH → TS → Prop} {R : Type} : ∀ {f : Option R} (T : Tc f) (l : Fast) (H : WH), wPre k T l H → ∃ l' tr', (∀ t, look l' t = look l t) ∧ k l' H tr'
  | _, .bd kk, l, H, h => by
    obtain ⟨x, q, h⟩ := h
    exact wPre_ok (kk x q) l H h
  | _, .gd kk, l, H, h => by
    obtain ⟨q, h⟩ := h
    exact wPre_ok (kk q) l H h
  | _, .ite (b := b) x y, l, H, h => by
    have hb : b = true ∨ b = false := by cases b <;> simp
    rcases hb with hb | hb
    · exact wPre_ok (x hb) l H (h.1 hb)
    · exact wPre_ok (y hb) l H (h.2 hb)
  | _, .rv t u _ r, l, H, h => by
    obtain ⟨e, h⟩ := h
    obtain ⟨l', tr', h1, h2⟩ := wPre_ok r ((t, u) :: l) H h
    refine ⟨l', tr', fun s => ?_, h2⟩
    rw [h1, look_cons2]
    split
    · rename_i e'
      subst e'
      exact e.symm
    · rfl
  | _, .rb b c _ r, l, H, h => by
    simp only [wPre] at h
    split at h
    case h_2 => exact h.elim
    rename_i c0 ro sl hg
    obtain ⟨rfl, h⟩ := h
    rw [wput_self hg] at h
    exact wPre_ok r l H h
  | _, .leaf x v, l, H, h => ⟨l, _, fun _ => rfl, h⟩
  | _, .leafq x v Q q, l, H, h => ⟨l, _, fun _ => rfl, h⟩
  | _, .fail, l, H, h => ⟨l, _, fun _ => rfl, h⟩
  | _, .br _ _ _, l, H, h => ⟨l, _, fun _ => rfl, h⟩
  | _, .ob _ _, l, H, h => ⟨l, _, fun _ => rfl, h⟩
  | _, .v _ _ _, l, H, h => ⟨l, _, fun _ => rfl, h⟩
  | _, .z _ _ _, l, H, h => ⟨l, _, fun _ => rfl, h⟩
  | _, .ap _ _ _ _, l, H, h => ⟨l, _, fun _ => rfl, h⟩
  | _, .st _ _, l, H, h => ⟨l, _, fun _ => rfl, h⟩
  | _, .call _ _ _ _ _ _, l, H, h => ⟨l, _, fun _ => rfl, h⟩
  | _, .lp _ _ _ _ _ _ _, l, H, h => ⟨l, _, fun _ => rfl, h⟩
  | _, .jn _ _ _ _ _ _ _ _, l, H, h => ⟨l, _, fun _ => rfl, h⟩
  | _, .sk _, l, H, h => ⟨l, _, fun _ => rfl, h⟩
  | _, .cb _ _ _ _, l, H, h => ⟨l, _, fun _ => rfl, h⟩
  | _, .kl _ _, l, H, h => ⟨l, _, fun _ => rfl, h⟩
  | _, .mp _ _, l, H, h => ⟨l, _, fun _ => rfl, h⟩
  | _, .cl _ _ _ _ _ _, l, H, h => ⟨l, _, fun _ => rfl, h⟩
  | _, .er _, l, H, h => ⟨l, _, fun _ => rfl, h⟩
theorem wStep_ok {l : Fast} {H : WH} {tr : TS} {k : Fast → WH → TS → Prop} (h : wStep l H tr k) : ∃ l' tr', (∀ t, look l' t = look l t) ∧ k l' H tr' := wPre_ok tr.tr l H h

theorem wGd_ok {g : Option (Nat × Bool)} {l : Fast} {tr : TS} {yes no : Fast → TS → Prop} (h : wGd g l tr yes no) : ∃ l' tr', (∀ t, look l' t = look l t) ∧ ((bwanted g l = some true ∧ yes l' tr') ∨ (bwanted g l = some false ∧ no l' tr')) := by
  have self : ∀ t, look l t = look l t := fun _ => rfl
  have like : ∀ {t b}, look l t = .bool b → ∀ u, look ((t, .bool b) :: l) u = look l u := fun {t b} hb u => by
    rw [look_cons2]
    split
    · rename_i e
      subst e
      exact hb.symm
    · rfl
  unfold wGd at h
  split at h
  · exact ⟨l, tr, self, .inl ⟨rfl, h⟩⟩
  · rename_i t want
    split at h
    · rename_i c hc
      have plain : ∀ tr, wIf c want (yes l tr) (no l tr) → ∃ l' tr', (∀ t, look l' t = look l t) ∧ ((bwanted (some (t, want)) l = some true ∧ yes l' tr') ∨ (bwanted (some (t, want)) l = some false ∧ no l' tr')) := fun tr h => by
        refine ⟨l, tr, self, ?_⟩
        simp only [bwanted, hc]
        cases c <;> cases want <;> simp_all [wIf]
      split at h
      · rename_i R0 f0 t' bq f g a b
        cases hb : Nat.beq t t' with
        | true =>
          rw [hb] at h
          simp only at h
          obtain ⟨hcb, h⟩ := h
          subst hcb
          cases c with
          | true =>
            have h := h.1 rfl
            cases want with
            | true => exact ⟨_, _, like hc, .inl ⟨by simp [bwanted, hc], h⟩⟩
            | false => exact ⟨_, _, like hc, .inr ⟨by simp [bwanted, hc], h⟩⟩
          | false =>
            have h := h.2 rfl
            cases want with
            | true => exact ⟨_, _, like hc, .inr ⟨by simp [bwanted, hc], h⟩⟩
            | false => exact ⟨_, _, like hc, .inl ⟨by simp [bwanted, hc], h⟩⟩
        | false =>
          rw [hb] at h
          exact plain _ h
      · exact plain _ h
    · rename_i vs hc
      exact ⟨l, tr, self, .inr ⟨by simp [bwanted, hc], h⟩⟩
    · exact h.elim

theorem bwanted_rel {R : Nat → Prop} {ι : VI} {M : Heap} {l lA : Fast} (h : EnvR R ι M l lA) {g : Option (Nat × Bool)} {w : Bool} (hw : bwanted g l = some w) : bwanted g lA = some w := by
  cases g with
  | none => exact hw
  | some g =>
    obtain ⟨t, want⟩ := g
    have ht := h t
    simp only [bwanted] at hw ⊢
    generalize look l t = X at *
    cases X <;> simp only at hw <;> first | (cases hw; done) | skip
    · rw [ht.eq rfl]
      exact hw
    · simp only [VL] at ht
      obtain ⟨cs', e, _⟩ := ht
      rw [e]
      exact hw

theorem wops_ok {C : ACalls} {B : FuncId → Option Bt} (hB : ∀ f b, B f = some b → BOk C f b) {R : Nat → Prop} {n : Nat} : ∀ (ops : List AOper) (l lA : Fast) (H : WH) (M : Heap) (ι : VI) (tr : TS) (k : Fast → WH → TS → Prop), VS R ι H M → EnvR R ι M l lA → (ops.all fun o => o.op.okc) = true →
    wops C B n ops l H tr k → ∃ lA' M' ι' l' H' tr' t, bops C n ops lA M = some (lA', M') ∧ VS R ι' H' M' ∧ Stp H.length t ι H M ι' H' M' ∧ EnvR R ι' M' l' lA' ∧ k l' H' tr'
  | [], l, lA, H, M, ι, tr, k, s, he, hc, h => ⟨lA, M, ι, l, H, tr, [], rfl, s, .refl _ _ _ _ _ (Nat.le_refl _), he, h⟩
  | o :: r, l, lA, H, M, ι, tr, k, s, he, hc, h => by
    simp only [List.all_cons, Bool.and_eq_true] at hc
    simp only [wops] at h
    obtain ⟨l0, tr0, hl0, h⟩ := wStep_ok h
    have he : EnvR R ι M l0 lA := fun t => by rw [hl0 t]; exact he t
    obtain ⟨l1, tr1, hl, h⟩ := wGd_ok h
    have he1 : EnvR R ι M l1 lA := fun t => by rw [hl t]; exact he t
    rcases h with ⟨hw, h⟩ | ⟨hw, h⟩
    · obtain ⟨l2, tr2, hl2, h⟩ := wStep_ok h
      have he1 : EnvR R ι M l2 lA := fun t => by rw [hl2 t]; exact he1 t
      simp only [bops, bwanted_rel he hw]
      cases ho : o.op with
      | p op =>
        rw [ho] at h hc
        simp only at h
        obtain ⟨v, u, tr2, h1, h2, h3⟩ := ovr_ok (R := R) h
        obtain ⟨a, h4, h5⟩ := wP_ok he1 hc.1 h1
        obtain ⟨lA', M', ι', l', H', tr', t, q1, q2⟩ := wops_ok hB r _ _ H M ι tr2 k s (he1.put n o.dst (h3 _ _ _ _ h5)) hc.2 h2
        refine ⟨lA', M', ι', l', H', tr', t, ?_, q2⟩
        simp only [AOp.sub, aop, h4, Option.map_some, force_eq]
        exact q1
      | l op =>
        rw [ho] at h hc
        simp only at h
        obtain ⟨v, u, tr2, h1, h2, h3⟩ := ovr_ok (R := R) h
        obtain ⟨a, h4, h5⟩ := wL_ok s he1 hc.1 h1
        obtain ⟨lA', M', ι', l', H', tr', t, q1, q2⟩ := wops_ok hB r _ _ H M ι tr2 k s (he1.put n o.dst (h3 _ _ _ _ h5)) hc.2 h2
        refine ⟨lA', M', ι', l', H', tr', t, ?_, q2⟩
        simp only [AOp.sub, aop, h4, Option.map_some, force_eq]
        exact q1
      | k op =>
        rw [ho] at h hc
        by_cases hmk : op = .makeMap
        · subst hmk
          simp only at h
          obtain ⟨s1, k1⟩ := s.push (x := .map []) (y := .map []) (d := (0, 0)) ⟨rfl, rfl, rfl⟩
          have hv : VL (M.push (.map [])) (OR R (ι.add H.length M.next (0, 0))) (ι.add H.length M.next (0, 0)) (.map (some H.length)) (.map (some M.next)) := by
            simp only [VL]
            exact ⟨M.next, by simp [VI.add, setAt], rfl⟩
          obtain ⟨lA', M', ι', l', H', tr', t, q1, q2, q3, q4⟩ := wops_ok hB r _ _ _ _ _ tr2 k s1 ((he1.step s k1).put n o.dst hv) hc.2 h
          refine ⟨lA', M', ι', l', H', tr', t, ?_, q2, ?_, q4⟩
          · simp only [AOp.sub, KOp.sub, aop, aK, Option.map_some, force_eq]
            exact q1
          · have := k1.trans q3 k1.next
            simpa using this
        have h : wK o.dst (op.sub (look l2)) tr2 (fun x mk tr => wops C B n r (bput n o.dst (mk H.length) l2) (H ++ [some x]) tr k) := by
          cases op <;> first | exact h | exact absurd rfl hmk
        obtain ⟨c, sl, mk, c', sl', mkA, tr2, h1, h2, h3, hss, h4⟩ := wK_ok s he1 hc.1 h
        obtain ⟨s1, k1⟩ := s.push (BL.of (sl' := sl') h3 hss)
        have hv := h4 (M.push (.cells c' false sl')) (OR R (ι.add H.length M.next (c.length, c'.length))) (ι.add H.length M.next (c.length, c'.length)) H.length M.next (by simp [VI.add, setAt]) (by simp [VI.add, setAt])
        obtain ⟨lA', M', ι', l', H', tr', t, q1, q2, q3, q4⟩ := wops_ok hB r _ _ _ _ _ tr2 k s1 ((he1.step s k1).put n o.dst hv) hc.2 h1
        refine ⟨lA', M', ι', l', H', tr', t, ?_, q2, ?_, q4⟩
        · simp only [AOp.sub, aop, h2, Option.map_some, force_eq]
          exact q1
        · have := k1.trans q3 k1.next
          simpa using this
      | n op =>
        rw [ho] at h hc
        simp only at h
        obtain ⟨a, M1, ι1, v, H1, t1, tr2, h1, h2, h3, h4, h5⟩ := wN_ok hB s he1 hc.1 h
        obtain ⟨lA', M', ι', l', H', tr', t, q1, q2, q3, q4⟩ := wops_ok hB r _ _ _ _ _ tr2 k h2 ((he1.step s h3).put n o.dst h4) hc.2 h5
        refine ⟨lA', M', ι', l', H', tr', t1 ++ t, ?_, q2, h3.trans q3 h3.next, q4⟩
        simp only [AOp.sub, aop, h1, force_eq]
        exact q1
    · simp only [bops, bwanted_rel he hw]
      exact wops_ok hB r _ _ H M ι tr1 k s (he1.put n o.dst VL.unit) hc.2 h

/-! ### Regions whose order is drawn -/

theorem holes_get : ∀ (k i : Nat), wget (holes k) i = none
  | 0, i => rfl
  | k + 1, 0 => rfl
  | k + 1, i + 1 => holes_get k i
theorem holes_len : ∀ k, (holes k).length = k
  | 0 => rfl
  | k + 1 => by simp [holes, holes_len k]

def VI.room (ι : VI) (a b nk : Nat) : VI := ⟨fun i => if a ≤ i ∧ i < a + nk then some (b + (i - a)) else ι i, fun i => if a ≤ i ∧ i < a + nk then false else ι.sol i, fun i => if a ≤ i ∧ i < a + nk then false else ι.gone i, fun i => if a ≤ i ∧ i < a + nk then Option.none else ι.dim i⟩

/-- Room for the blocks that a region makes. -/
theorem VS.room {R : Nat → Prop} {ι : VI} {H : WH} {M : Heap} (s : VS R ι H M) (nk : Nat) :
    VS R (ι.room H.length M.next nk) (H ++ holes nk) { M with next := M.next + nk } ∧ Stp H.length [] ι H M (ι.room H.length M.next nk) (H ++ holes nk) { M with next := M.next + nk } := by
  have gp : ∀ i, wget (H ++ holes nk) i = wget H i := fun i => by
    rw [wget_app]
    split
    · rfl
    · rename_i h
      rw [holes_get, wget_ge (Nat.le_of_not_lt h)]
  have out : ∀ i, i < H.length → ¬ (H.length ≤ i ∧ i < H.length + nk) := fun i h => by omega
  have hls : ∀ S, VI.Le ι (ι.room H.length M.next nk) S := fun S i _ =>
    ⟨fun j h => by simp only [VI.room, if_neg (out i (s.lt i j h).1)]; exact ⟨h, fun _ h => h⟩, fun h => by simp only [VI.room, if_neg (out i (s.solt i h).1)]; exact ⟨h, fun _ h => h⟩⟩
  have hk : Keeps M (own ι) { M with next := M.next + nk } (own (ι.room H.length M.next nk)) := ⟨Nat.le_add_right _ _, fun b hb ho => ⟨rfl, fun ⟨i, hi, hg⟩ => by
    simp only [VI.room] at hi hg
    split at hi
    · obtain rfl := Option.some.inj hi; omega
    · rename_i hne
      rw [if_neg hne] at hg
      exact ho ⟨i, hi, hg⟩⟩⟩
  have ac : ∀ i, ¬ (H.length ≤ i ∧ i < H.length + nk) → act (ι.room H.length M.next nk) (H ++ holes nk) i → act ι H i := fun i hn h => h.imp (fun ⟨x, h⟩ => ⟨x, by rw [gp] at h; exact h⟩) (fun h => by simpa only [VI.room, if_neg hn] using h)
  refine ⟨⟨fun i j h => ?_, fun i i' j h h' e e' g => ?_, fun i x hx => ?_, fun i h => ?_, fun i hi c sl h => ?_, fun i hi => s.okM i (by have : M.next + nk ≤ i := hi; omega), fun j h => ⟨Nat.lt_of_lt_of_le (s.res j h).1 (Nat.le_add_right _ _), fun i hi => ?_⟩⟩,
    ⟨hk, hls _, fun i hi h => by simp only [VI.room, if_neg (out i hi)]; exact h, fun i hi => by simp only [VI.room, if_neg (out i hi)], fun i hi => by simp only [VI.room, if_neg (out i hi)], fun i hi _ => by simp only [VI.room, if_neg (out i hi)], fun i _ ⟨x, h⟩ => ⟨x, by rw [gp] at h; exact h⟩, fun _ _ _ _ _ _ => rfl, by simp⟩⟩
  · simp only [VI.room] at h
    simp only [List.length_append, holes_len]
    split at h
    · obtain rfl := Option.some.inj h
      omega
    · have := s.lt i j h
      omega
  · simp only [VI.room] at e e'
    split at e <;> split at e'
    · have e1 := Option.some.inj e
      have e2 := Option.some.inj e'
      omega
    · obtain rfl := Option.some.inj e
      have := (s.lt _ _ e').2
      omega
    · obtain rfl := Option.some.inj e'
      have := (s.lt _ _ e).2
      omega
    · rename_i n1 n2
      simp only [VI.room, if_neg n1, if_neg n2] at g
      exact s.inj i i' j (ac i n1 h) (ac i' n2 h') e e' g
  · rw [gp] at hx
    have hl := out i (wget_lt hx)
    simp only [VI.room, if_neg hl]
    rcases s.blk i x hx with h | ⟨j, h1, h2, h3⟩
    · exact .inl h
    · exact .inr ⟨j, h1, h2.mono (hk.or R) hls (fun _ h => h), h3⟩
  · simp only [VI.room] at h ⊢
    split at h
    · cases h
    · rename_i hn
      rw [if_neg hn]
      have := s.solt i h
      simp only [List.length_append, holes_len]
      exact ⟨by omega, this.2⟩
  · rw [gp] at h
    have hl := out i (wget_lt h)
    simp only [VI.room, if_neg hl] at hi
    exact s.ice i hi c sl h
  · simp only [VI.room]
    split
    · rename_i hn
      intro e
      obtain rfl := Option.some.inj e
      have := (s.res _ h).1
      omega
    · rename_i hn
      exact (s.res j h).2 i (ac i hn hi)

def VI.fill (ι : VI) (i : Nat) (d : Nat × Nat) : VI := ⟨ι.to, ι.sol, ι.gone, setAt ι.dim i (some d)⟩

/-- A block of the region's own. -/
theorem VS.fill {R : Nat → Prop} {ι : VI} {H : WH} {M : Heap} (s : VS R ι H M) {b j : Nat} (hb : ι b = some j) (hg : ι.gone b = false) (hd : ι.dim b = none) (hn : wget H b = none) {x y : Blk} {d : Nat × Nat} (hx : BL M (OR R ι) ι (some d) x (some y)) :
    VS R (ι.fill b d) (wput H b (some x)) (M.put j (some y)) ∧ Keeps M (own ι) (M.put j (some y)) (own (ι.fill b d)) ∧ (∀ S, VI.Le ι (ι.fill b d) S) ∧ (∀ i j', i ≠ b → act ι H i → ι i = some j' → (M.put j (some y)).get j' = M.get j') := by
  have hbl := (s.lt b j hb).1
  have hk : Keeps M (own ι) (M.put j (some y)) (own (ι.fill b d)) := ⟨Nat.le_refl _, fun b' _ ho => ⟨by
    have : b' ≠ j := fun e => ho (e ▸ ⟨b, hb, hg⟩)
    simp [Heap.put, this], ho⟩⟩
  have hls : ∀ S, VI.Le ι (ι.fill b d) S := fun S i _ => by
    by_cases e : i = b
    · subst e
      exact ⟨fun j h => ⟨h, fun d h => by rw [hd] at h; cases h⟩, fun h => ⟨h, fun d h => by rw [hd] at h; cases h⟩⟩
    · simp only [VI.fill, setAt_ne _ _ e]
      exact ⟨fun j h => ⟨h, fun d h => h⟩, fun h => ⟨h, fun d h => h⟩⟩
  have gp : ∀ k, wget (wput H b (some x)) k = if k = b then some x else wget H k := fun k => by
    rw [wget_put]
    by_cases e : k = b
    · rw [if_pos ⟨e, hbl⟩, if_pos e]
    · rw [if_neg (fun h => e h.1), if_neg e]
  have ac : ∀ i, act (ι.fill b d) (wput H b (some x)) i → act ι H i := fun i h => by
    rcases h with ⟨z, h⟩ | h
    · rw [gp] at h
      by_cases e : i = b
      · subst e
        exact .inr hg
      · rw [if_neg e] at h
        exact .inl ⟨z, h⟩
    · exact .inr h
  have ne : ∀ i j', i ≠ b → act ι H i → ι i = some j' → j' ≠ j := fun i j' hi ha h e => hi (s.inj i b j ha (.inr hg) (e ▸ h) hb (.inr hg))
  refine ⟨⟨fun i j h => by rw [wput_len]; exact s.lt i j h, fun i i' j h h' => s.inj i i' j (ac i h) (ac i' h'), fun i z hz => ?_, fun i h => by rw [wput_len]; exact s.solt i h, fun i hi c sl h => ?_, fun i hi => ?_, fun j h => ⟨(s.res j h).1, fun i hi => (s.res j h).2 i (ac i hi)⟩⟩, hk, hls, fun i j' hi ha h => by simp [Heap.put, ne i j' hi ha h]⟩
  · rw [gp] at hz
    by_cases e : i = b
    · subst e
      rw [if_pos rfl] at hz
      obtain rfl := Option.some.inj hz
      refine .inr ⟨j, hb, ?_, fun _ => hg⟩
      simp only [Heap.put, if_true]
      exact hx.mono (hk.or R) hls (fun _ h => by simpa [VI.fill, setAt] using h)
    · rw [if_neg e] at hz
      rcases s.blk i z hz with ⟨h1, h2, h3⟩ | ⟨j', h1, h2, h3⟩
      · exact .inl ⟨h1, by simp only [VI.fill, setAt_ne _ _ e]; exact h2, h3⟩
      · refine .inr ⟨j', h1, ?_, h3⟩
        simp only [Heap.put, if_neg (ne i j' e (.inl ⟨z, hz⟩) h1)]
        exact h2.mono (hk.or R) hls (fun _ h => by simp only [VI.fill, setAt_ne _ _ e]; exact h)
  · rw [gp] at h
    by_cases e : i = b
    · subst e
      have : ι.gone i = true := hi
      rw [hg] at this
      cases this
    · rw [if_neg e] at h
      exact s.ice i hi c sl h
  · have := (s.lt b j hb).2
    have : i ≠ j := fun e => by subst e; simp only [Heap.put] at hi; omega
    simp only [Heap.put, if_neg this]
    exact s.okM i hi

mutual
theorem VL.selfsame {M : Heap} {O : Nat → Prop} {κ : VI} : ∀ (v a : AV), known v = true → VL M O κ v a → AV.same a a = true
  | .undef, _, h, _ => by simp [known] at h
  | .bool _, _, _, e => by simp only [VL] at e; subst e; simp [AV.same]
  | .int _ _, _, _, e => by simp only [VL] at e; subst e; simp [AV.same]
  | .str _, _, _, e => by simp only [VL] at e; subst e; simp [AV.same]
  | .ptr none, _, _, e => by simp only [VL] at e; subst e; simp [AV.same]
  | .ptr (some q), _, _, e => by simp only [VL] at e; obtain ⟨j, _, rfl⟩ := e; simp [AV.same]
  | .slice none _ _ _ _, _, _, e => by simp only [VL] at e; obtain ⟨_, s', rfl⟩ := e; simp [AV.same]
  | .slice (some _) _ _ _ _, _, _, e => by simp [VL] at e
  | .map none, _, _, e => by simp only [VL] at e; subst e; simp [AV.same]
  | .map (some r), _, _, e => by simp only [VL] at e; obtain ⟨j, _, rfl⟩ := e; simp [AV.same]
  | .func f cs, _, h, e => by
    simp only [VL] at e
    obtain ⟨cs', rfl, e⟩ := e
    simp only [AV.same, Bool.and_eq_true, beq_self_eq_true, true_and]
    exact VLL.selfsame cs cs' (by simpa [known] using h) e
  | .nilFunc, _, _, e => by simp only [VL] at e; subst e; simp [AV.same]
  | .agg cs, _, h, e => by
    simp only [VL] at e
    obtain ⟨cs', rfl, e⟩ := e
    simp only [AV.same]
    exact VLL.selfsame cs cs' (by simpa [known] using h) e
  | .tuple cs, _, h, e => by
    simp only [VL] at e
    obtain ⟨cs', rfl, e⟩ := e
    simp only [AV.same]
    exact VLL.selfsame cs cs' (by simpa [known] using h) e
  | .list .., _, _, e => by
    simp only [VL] at e
    rcases e with ⟨_, _, s', rfl⟩ | ⟨b, o, cap, ex', rfl, _⟩ <;> simp [AV.same]
  | .elem _, _, _, e => by simp only [VL] at e; obtain ⟨b, o, c, ro, sl, rfl, _⟩ := e; simp [AV.same]
  | .acc .., _, _, e => by simp only [VL] at e; obtain ⟨p, s', cap, ex, rfl, _⟩ := e; simp [AV.same]
theorem VLL.selfsame {M : Heap} {O : Nat → Prop} {κ : VI} : ∀ (l r : List AV), knownL l = true → VLL M O κ l r → AV.sameL r r = true
  | [], [], _, _ => by simp [AV.sameL]
  | v :: l, a :: r, h, e => by
    simp only [VLL] at e
    simp only [knownL] at h
    split at h
    · rename_i hv
      simp only [AV.sameL, Bool.and_eq_true]
      exact ⟨VL.selfsame v a hv e.1, VLL.selfsame l r h e.2⟩
    · cases h
  | [], _ :: _, _, e => by simp [VLL] at e
  | _ :: _, [], _, e => by simp [VLL] at e
end

end Go.Proofs.Ytlcjmchhnbdepaa
end

section
/- W, thirteenth part: regions whose order is drawn. -/
set_option linter.all false
set_option linter.unusedSimpArgs false
namespace Go.Proofs.Ytlcjmchhnbdepaa

theorem bornOf_cons (u k : Nat) (bt : List (Nat × Nat)) (t : Nat) : bornOf ((u, k) :: bt) t = if u = t then k else bornOf bt t := by
  simp only [bornOf]
  cases h : Nat.beq u t with
  | true => simp [Nat.eq_of_beq_eq_true h]
  | false =>
    have : u ≠ t := fun e => by subst e; simp at h
    simp [this]

theorem bornOf_put (n : Nat) (d : Option Nat) (k : Nat) (bt : List (Nat × Nat)) (t : Nat) : bornOf (bornPut n d k bt) t = if d = some t ∧ t < n then k else bornOf bt t := by
  cases d with
  | none => simp [bornPut]
  | some d =>
    simp only [bornPut]
    cases hb : Nat.blt d n with
    | true =>
      have hd : d < n := by simpa [Nat.blt_eq] using hb
      simp only [bornOf_cons]
      by_cases he : d = t
      · subst he
        simp [hd]
      · simp [he]
    | false =>
      have hd : ¬ d < n := fun h => by
        have : Nat.blt d n = true := by simpa [Nat.blt_eq] using h
        rw [hb] at this
        cases this
      simp only
      rw [if_neg]
      rintro ⟨h1, h2⟩
      obtain rfl := Option.some.inj h1
      exact hd h2

def cutR (bt : List (Nat × Nat)) (k : Nat) (ρ : Nat → AV) : Nat → AV := fun t => if bornOf bt t ≤ k then ρ t else .undef
theorem cutR_ev {bt : List (Nat × Nat)} {k : Nat} {ρ : Nat → AV} {x : AX} (h : bornX bt x ≤ k) : x.sub (cutR bt k ρ) = x.sub ρ := by
  cases x with
  | t t => simp only [bornX] at h; simp only [AX.sub, cutR]; rw [if_pos h]
  | c v => rfl
theorem cutR_evO {bt : List (Nat × Nat)} {k : Nat} {ρ : Nat → AV} {x : Option AX} (h : bornXO bt x ≤ k) : AX.subO (cutR bt k ρ) x = AX.subO ρ x := by
  cases x with
  | none => rfl
  | some x => simp only [AX.subO, Option.map_some, cutR_ev h]
theorem bornP_sub {bt : List (Nat × Nat)} {n k : Nat} {ρ : Nat → AV} {o : POp} (hk : k < n) (h : bornP bt n o ≤ k) : o.sub (cutR bt k ρ) = o.sub ρ := by
  cases o <;> simp only [bornP] at h <;> first | omega | skip
  all_goals simp only [POp.sub]
  all_goals (repeat rw [cutR_ev (by omega)])
  all_goals (repeat rw [cutR_evO (by omega)])

theorem touches_cons {b : Nat} {t : List Nat × WH} {r : List (List Nat × WH)} : touches b (t :: r) = false ↔ b ∉ t.1 ∧ touches b r = false := by
  simp only [touches]
  cases h : hasN t.1 b with
  | true => simp [hasN_iff.1 h]
  | false => simp [show b ∉ t.1 from fun e => by rw [hasN_iff.2 e] at h; cases h]
theorem touches_app {b : Nat} {t : List Nat × WH} : ∀ {r : List (List Nat × WH)}, touches b (r ++ [t]) = false ↔ touches b r = false ∧ b ∉ t.1
  | [] => by rw [List.nil_append, touches_cons]; simp [touches]
  | u :: r => by rw [List.cons_append, touches_cons, touches_cons, touches_app, and_assoc]

/-- A heap of the region, ahead of the k-th loud operation. -/
structure HK (R : Nat → Prop) (base baseA nk k : Nat) (ι0 ι : VI) (H : WH) (M : Heap) (l lA : Fast) (bt : List (Nat × Nat)) (hs : List (List Nat × WH)) (Mk : Heap) (ιk : VI) : Prop where
  keep : Keeps Mk (own ιk) M (own ι)
  env : ∀ t, bornOf bt t ≤ k + 1 → VL Mk (OR R ιk) ιk (look l t) (look lA t)
  new : ∀ i, i < nk → ιk (base + i) = some (baseA + i)
  gone : ∀ i, i < nk → ιk.gone (base + i) = true → ι.gone (base + i) = true
  same : ∀ i j, i < base → act ι H i → ι0 i = some j → touches i (hs.drop k) = false → M.get j = Mk.get j

structure DI (R : Nat → Prop) (base baseA nk : Nat) (ι0 : VI) (M0 : Heap) (ι : VI) (H : WH) (M : Heap) (l lA : Fast) (bt : List (Nat × Nat)) (al : List Nat) (hs : List (List Nat × WH)) (histA : List Heap) : Prop where
  vs : VS R ι H M
  len : base + nk ≤ H.length
  env : EnvR R ι M l lA
  new : ∀ i, i < nk → ι (base + i) = some (baseA + i)
  free : ∀ i, i < nk → hasN al i = false → ι.gone (base + i) = false ∧ ι.dim (base + i) = none ∧ wget H (base + i) = none
  start : ∀ t, bornOf bt t = 0 → VL M0 (OR R ι0) ι0 (look l t) (look lA t)
  low : ∀ i j, ι0 i = some j → i < base ∧ j < baseA
  le0 : VI.Le ι0 ι (fun i => i < base)
  to0 : ∀ i, i < base → ι i = ι0 i
  m0 : M0.next = baseA
  hlen : hs.length = histA.length
  hist : ∀ k Mk, histA[k]? = some Mk → ∃ ιk, HK R base baseA nk k ι0 ι H M l lA bt hs Mk ιk ∧ ∃ t Hk, hs[k]? = some (t, Hk) ∧ VS R ιk Hk Mk

section
variable {R : Nat → Prop} {base baseA nk : Nat} {ι0 : VI} {M0 : Heap} {ι : VI} {H : WH} {M : Heap} {l lA : Fast} {bt : List (Nat × Nat)} {al : List Nat} {hs : List (List Nat × WH)} {histA : List Heap}

theorem HK.put {k : Nat} {Mk : Heap} {ιk : VI} (g : HK R base baseA nk k ι0 ι H M l lA bt hs Mk ιk) (n : Nat) (d : Option Nat) (b : Nat) {v a : AV} (hv : b ≤ k + 1 → VL Mk (OR R ιk) ιk v a) : HK R base baseA nk k ι0 ι H M (bput n d v l) (bput n d a lA) (bornPut n d b bt) hs Mk ιk :=
  ⟨g.keep, fun t ht => by
    rw [look_bput, look_bput]
    rw [bornOf_put] at ht
    split
    · rename_i h
      rw [if_pos h] at ht
      exact hv ht
    · rename_i h
      rw [if_neg h] at ht
      exact g.env t ht, g.new, g.gone, g.same⟩

/-- A value that is known from 'b' on. -/
theorem DI.put (g : DI R base baseA nk ι0 M0 ι H M l lA bt al hs histA) (n : Nat) (d : Option Nat) (b : Nat) {v a : AV} (hv : VL M (OR R ι) ι v a) (h0 : b = 0 → VL M0 (OR R ι0) ι0 v a)
    (hk : ∀ k Mk ιk, k < hs.length → HK R base baseA nk k ι0 ι H M l lA bt hs Mk ιk → b ≤ k + 1 → VL Mk (OR R ιk) ιk v a) : DI R base baseA nk ι0 M0 ι H M (bput n d v l) (bput n d a lA) (bornPut n d b bt) al hs histA :=
  ⟨g.vs, g.len, g.env.put n d hv, g.new, g.free, fun t ht => by
    rw [look_bput, look_bput]
    rw [bornOf_put] at ht
    split
    · rename_i h
      rw [if_pos h] at ht
      exact h0 ht
    · rename_i h
      rw [if_neg h] at ht
      exact g.start t ht, g.low, g.le0, g.to0, g.m0, g.hlen, fun k Mk h => by
      obtain ⟨ιk, q, q2⟩ := g.hist k Mk h
      exact ⟨ιk, q.put n d b fun hb => hk k Mk ιk (by rw [g.hlen]; exact (List.getElem?_eq_some_iff.1 h).1) q hb, q2⟩⟩

/-- The same, with all that is known of the region's heaps. -/
theorem DI.put2 (g : DI R base baseA nk ι0 M0 ι H M l lA bt al hs histA) (n : Nat) (d : Option Nat) (b : Nat) {v a : AV} (hv : VL M (OR R ι) ι v a) (h0 : b = 0 → VL M0 (OR R ι0) ι0 v a)
    (hk : ∀ k Mk ιk t Hk, histA[k]? = some Mk → HK R base baseA nk k ι0 ι H M l lA bt hs Mk ιk → hs[k]? = some (t, Hk) → VS R ιk Hk Mk → b ≤ k + 1 → VL Mk (OR R ιk) ιk v a) : DI R base baseA nk ι0 M0 ι H M (bput n d v l) (bput n d a lA) (bornPut n d b bt) al hs histA :=
  ⟨g.vs, g.len, g.env.put n d hv, g.new, g.free, fun t ht => by
    rw [look_bput, look_bput]
    rw [bornOf_put] at ht
    split
    · rename_i h
      rw [if_pos h] at ht
      exact h0 ht
    · rename_i h
      rw [if_neg h] at ht
      exact g.start t ht, g.low, g.le0, g.to0, g.m0, g.hlen, fun k Mk h => by
      obtain ⟨ιk, q, t, Hk, q2, q3⟩ := g.hist k Mk h
      exact ⟨ιk, q.put n d b fun hb => hk k Mk ιk t Hk h q q2 q3 hb, t, Hk, q2, q3⟩⟩

/-- A value that is known now. -/
theorem DI.now (g : DI R base baseA nk ι0 M0 ι H M l lA bt al hs histA) (n : Nat) (d : Option Nat) {v a : AV} (hv : VL M (OR R ι) ι v a) : DI R base baseA nk ι0 M0 ι H M (bput n d v l) (bput n d a lA) (bornPut n d (hs.length + 1) bt) al hs histA :=
  g.put n d (hs.length + 1) hv (fun h => by omega) (fun k Mk ιk hk _ hb => by omega)

theorem DI.like {l' : Fast} (g : DI R base baseA nk ι0 M0 ι H M l lA bt al hs histA) (h : ∀ t, look l' t = look l t) : DI R base baseA nk ι0 M0 ι H M l' lA bt al hs histA :=
  ⟨g.vs, g.len, fun t => by rw [h t]; exact g.env t, g.new, g.free, fun t ht => by rw [h t]; exact g.start t ht, g.low, g.le0, g.to0, g.m0, g.hlen, fun k Mk e => by
    obtain ⟨ιk, q, q2⟩ := g.hist k Mk e
    exact ⟨ιk, ⟨q.keep, fun t ht => by rw [h t]; exact q.env t ht, q.new, q.gone, q.same⟩, q2⟩⟩

/-- After a loud operation. -/
theorem DI.loud (g : DI R base baseA nk ι0 M0 ι H M l lA bt al hs histA) {t : List Nat} {ι' : VI} {H' : WH} {M' : Heap} (s' : VS R ι' H' M') (k : Stp H.length t ι H M ι' H' M') : DI R base baseA nk ι0 M0 ι' H' M' l lA bt al (hs ++ [(t, H)]) (histA ++ [M]) := by
  have hb : ∀ i, i < nk → base + i < H.length := fun i hi => by have := g.len; omega
  have nw : ∀ i, i < nk → ι' (base + i) = some (baseA + i) := fun i hi => ((k.le _ (hb i hi)).1 _ (g.new i hi)).1
  refine ⟨s', Nat.le_trans g.len k.next, g.env.step g.vs k, nw, fun i hi ha => ?_, g.start, g.low, g.le0.trans (k.le.sub fun i hi => by have := g.len; have : i < base := hi; show i < H.length; omega), fun i hi => (k.toq i (by have := g.len; omega)).trans (g.to0 i hi), g.m0, by simp [g.hlen], fun q Mk hq => ?_⟩
  · obtain ⟨h1, h2, h3⟩ := g.free i hi ha
    refine ⟨by rw [k.dgone _ (hb i hi) h3]; exact h1, by rw [k.dimq _ (hb i hi)]; exact h2, ?_⟩
    cases e : wget H' (base + i) with
    | none => rfl
    | some x =>
      obtain ⟨y, hy⟩ := k.live _ (hb i hi) ⟨x, e⟩
      rw [h3] at hy
      cases hy
  · rcases Nat.lt_or_ge q histA.length with hlt | hge
    · rw [List.getElem?_append_left hlt] at hq
      obtain ⟨ιk, w, t0, Hk, w2, w3⟩ := g.hist q Mk hq
      refine ⟨ιk, ⟨w.keep.trans k.keep, w.env, w.new, fun i hi h => k.gone _ (hb i hi) (w.gone i hi h), fun i j hi ha hj ht => ?_⟩, t0, Hk, by rw [List.getElem?_append_left (by rw [g.hlen]; exact hlt)]; exact w2, w3⟩
      rw [List.drop_append_of_le_length (by rw [g.hlen]; omega), touches_app] at ht
      have hi' : i < H.length := by have := g.len; omega
      exact (k.tch i j hi' ha ((g.le0 i hi).1 j hj).1 ht.2).trans (w.same i j hi (k.act hi' ha) hj ht.1)
    · rw [List.getElem?_append_right hge] at hq
      have hqe : q = histA.length := by
        rcases Nat.eq_or_lt_of_le hge with e | e
        · exact e.symm
        · rw [List.getElem?_eq_none (by simp; omega)] at hq; cases hq
      subst hqe
      simp only [Nat.sub_self, List.getElem?_cons_zero, Option.some.injEq] at hq
      subst hq
      refine ⟨ι, ⟨k.keep, fun u _ => g.env u, g.new, fun i hi h => k.gone _ (hb i hi) h, fun i j hi ha hj ht => ?_⟩, t, H, by rw [← g.hlen, List.getElem?_append_right (Nat.le_refl _)]; simp, g.vs⟩
      rw [← g.hlen, List.drop_append_of_le_length (Nat.le_refl _), List.drop_length, List.nil_append, touches_cons] at ht
      exact k.tch i j (by have := g.len; omega) ha ((g.le0 i hi).1 j hj).1 ht.1

theorem thawed_mem : ∀ {al : List Nat} {m : Nat}, thawed H base al = true → hasN al m = true → ∃ c sl, wget H (base + m) = some (.cells c false sl)
  | [], m, _, h => by simp [hasN] at h
  | a :: r, m, ht, h => by
    simp only [thawed] at ht
    split at ht
    case h_2 => cases ht
    rename_i c sl hg
    rcases List.mem_cons.1 (hasN_iff.1 h) with e | e
    · exact ⟨c, sl, e ▸ hg⟩
    · exact thawed_mem ht (hasN_iff.2 e)

/-- The region's own blocks are still its own. -/
theorem DI.owns (g : DI R base baseA nk ι0 M0 ι H M l lA bt al hs histA) (ht : thawed H base al = true) {b : Nat} (h1 : baseA ≤ b) (h2 : b < baseA + nk) : own ι b := by
  have e : baseA + (b - baseA) = b := by omega
  refine ⟨base + (b - baseA), by rw [g.new _ (by omega), e], ?_⟩
  cases ha : hasN al (b - baseA) with
  | false => exact (g.free _ (by omega) ha).1
  | true =>
    obtain ⟨c, sl, hg⟩ := thawed_mem ht ha
    cases hgo : ι.gone (base + (b - baseA)) with
    | false => rfl
    | true => exact absurd hg (g.vs.ice _ hgo c sl)

theorem DI.owned (g : DI R base baseA nk ι0 M0 ι H M l lA bt al hs histA) {lo : Nat} (ht : (thawed H base al || thawedAt hs lo base al) = true) {b : Nat} (h1 : baseA ≤ b) (h2 : b < baseA + nk) :
    own ι b ∨ ∃ k Mk ιk, lo ≤ k ∧ histA[k]? = some Mk ∧ HK R base baseA nk k ι0 ι H M l lA bt hs Mk ιk ∧ own ιk b := by
  rcases Bool.or_eq_true_iff.1 ht with ht | ht
  · exact .inl (g.owns ht h1 h2)
  have e : baseA + (b - baseA) = b := by omega
  cases ha : hasN al (b - baseA) with
  | false => exact .inl ⟨base + (b - baseA), by rw [g.new _ (by omega), e], (g.free _ (by omega) ha).1⟩
  | true =>
    right
    unfold thawedAt at ht
    split at ht
    case h_2 => cases ht
    rename_i tk Hk rest hd
    have hk : hs[lo]? = some (tk, Hk) := by
      have : (hs.drop lo)[0]? = some (tk, Hk) := by rw [hd]; rfl
      rw [List.getElem?_drop] at this
      exact this
    have hl : lo < histA.length := by rw [← g.hlen]; exact (List.getElem?_eq_some_iff.1 hk).1
    obtain ⟨ιk, w, t', Hk', w2, w3⟩ := g.hist lo histA[lo] (List.getElem?_eq_getElem hl)
    rw [hk] at w2
    cases w2
    obtain ⟨c, sl, hg⟩ := thawed_mem ht ha
    refine ⟨lo, _, ιk, Nat.le_refl _, List.getElem?_eq_getElem hl, w, base + (b - baseA), by rw [w.new _ (by omega), e], ?_⟩
    cases hgo : ιk.gone (base + (b - baseA)) with
    | false => rfl
    | true => exact absurd hg (w3.ice _ hgo c sl)

theorem hide_out {X : Heap} {b : Nat} (h : ¬ (baseA ≤ b ∧ b < baseA + nk)) : (X.hide baseA nk).get b = X.get b := by
  simp only [Heap.hide]
  rw [if_neg h]

theorem aLoad_get {g : Bool} {n b o : Nat} {X Y : Heap} (h : X.get b = Y.get b) : aLoad g n (.ptr (some (b, o))) X = aLoad g n (.ptr (some (b, o))) Y := by
  simp only [aLoad, Heap.read, h]
theorem aBytesStr_get {sz len cap : Nat} {ex : Bool} {b o : Nat} {X Y : Heap} (h : len ≠ 0 → X.get b = Y.get b) : aBytesStr (.slice (some (b, o)) sz len cap ex) X = aBytesStr (.slice (some (b, o)) sz len cap ex) Y := by
  unfold aBytesStr
  split <;> first | rfl | skip
  rename_i e
  cases e
  split
  · rfl
  · rename_i hl
    simp only [Heap.read, h hl]

/-- What a load out of 'lA' reads hangs on one block of the machine, which is the same everywhere. -/
theorem load_ok (g : DI R base baseA nk ι0 M0 ι H M l lA bt al hs histA) {o : LOp} (hc : o.okc = true) {v u : AV} (hv : wL (o.sub (look l)) H = some v) (hu : ∀ (M : Heap) (O : Nat → Prop) (κ : VI) (a : AV), VL M O κ v a → VL M O κ u a) {lo : Nat} (hok : loadOk base al l bt lo o u H hs = true) :
    ∃ a, aL (o.sub (look lA)) [] (M.hide baseA nk) = some a ∧ VL M (OR R ι) ι u a ∧ ∀ k Mk, lo ≤ k → histA[k]? = some Mk → ∃ w, aL (o.sub (look lA)) [] (Mk.hide baseA nk) = some w ∧ AV.same w a = true := by
  obtain ⟨a, h1, h2⟩ := wL_ok g.vs g.env hc hv
  have h3 := hu _ _ _ _ h2
  -- all read the same
  have fin : known u = true → (∀ X, (X = M ∨ ∃ k, lo ≤ k ∧ histA[k]? = some X) → aL (o.sub (look lA)) [] (X.hide baseA nk) = aL (o.sub (look lA)) [] M) → ∃ a, aL (o.sub (look lA)) [] (M.hide baseA nk) = some a ∧ VL M (OR R ι) ι u a ∧ ∀ k Mk, lo ≤ k → histA[k]? = some Mk → ∃ w, aL (o.sub (look lA)) [] (Mk.hide baseA nk) = some w ∧ AV.same w a = true :=
    fun hkn hX => ⟨a, (hX M (.inl rfl)).trans h1, h3, fun k Mk hk hM => ⟨a, (hX Mk (.inr ⟨k, hk, hM⟩)).trans h1, VL.selfsame u a hkn h3⟩⟩
  unfold loadOk at hok
  -- a list
  have lst : ∀ (t : Nat), bornX bt (.t t) = bornL bt o → Nat.ble (bornL bt o) lo = true → (thawed H base al = true ∨ bornL bt o = 0) →
      ∀ (P : Heap → (Nat → Prop) → VI → Nat → Prop), (∀ M O κ, VL M O κ (look l t) (look lA t) → ∃ b, P M O κ b) → True := fun _ _ _ _ _ _ => trivial
  cases o with
  | load ag n x =>
    cases x with
    | c w => simp [srcL] at hok
    | t t =>
      simp only [srcL, bornL, bornX] at hok
      simp only [LOp.sub, AX.sub, aL, AX.ev] at fin h1 ⊢
      have e0 := g.env t
      generalize hX : look l t = X at *
      cases X with
      | elem cs =>
        simp only at hok
        have hkn : known u = true := by
          split at hok
          · assumption
          · assumption
          · cases hok
        have hb : bornOf bt t ≤ lo + 1 := by
          split at hok
          · rename_i h _ _; exact Nat.le_of_ble_eq_true h
          · rename_i h _ _; exact Nat.le_of_ble_eq_true h
          · cases hok
        have hth : (thawed H base al || thawedAt hs lo base al) = true ∨ bornOf bt t = 0 := by
          split at hok
          · exact .inl (by assumption)
          · exact .inr (Nat.eq_of_beq_eq_true hok)
          · cases hok
        simp only [VL] at e0
        obtain ⟨b, off, c, ro, sl, e1, g1, g2, g3, g4⟩ := e0
        have hout : ¬ (baseA ≤ b ∧ b < baseA + nk) := fun ⟨q1, q2⟩ => by
          rcases hth with ht | h0
          · rcases g.owned ht q1 q2 with o | ⟨k, Mk, ιk, hk, _, w, o⟩
            · exact g2 (.inl o)
            · have := w.env t (by omega)
              rw [hX] at this
              simp only [VL] at this
              obtain ⟨b', _, _, _, _, e2, _, p2, _⟩ := this
              rw [e1] at e2
              simp only [AV.ptr.injEq, Option.some.injEq, Prod.mk.injEq] at e2
              rw [← e2.1] at p2
              exact p2 (.inl o)
          · have := g.start t h0
            rw [hX] at this
            simp only [VL] at this
            obtain ⟨b', _, _, _, _, e2, _, _, p3, _⟩ := this
            rw [e1] at e2
            simp only [AV.ptr.injEq, Option.some.injEq, Prod.mk.injEq] at e2
            rw [← e2.1, g.m0] at p3
            omega
        refine fin hkn fun X hX' => ?_
        rw [e1]
        refine aLoad_get ((hide_out hout).trans ?_)
        rcases hX' with rfl | ⟨k, hk, hM⟩
        · rfl
        · obtain ⟨ιk, w, _⟩ := g.hist k X hM
          have := w.env t (by omega)
          rw [hX] at this
          simp only [VL] at this
          obtain ⟨b', _, _, _, _, e2, _, p2, p3, _⟩ := this
          rw [e1] at e2
          simp only [AV.ptr.injEq, Option.some.injEq, Prod.mk.injEq] at e2
          rw [← e2.1] at p2 p3
          exact (w.keep.get b p3 (fun h => p2 (.inl h))).1.symm
      | ptr p =>
        cases p with
        | none => simp at hok
        | some q =>
          simp only at hok
          split at hok
          case h_2 => cases hok
          rename_i hkn hlt hto
          have hlt : q.1 < base := by simpa [Nat.blt_eq] using hlt
          simp only [VL] at e0
          obtain ⟨j, k1, k2⟩ := e0
          rw [g.to0 _ hlt] at k1
          have hj := (g.low _ _ k1).2
          have hact : act ι H q.1 := by
            simp only [LOp.sub, AX.sub, wL, AX.ev, hX] at hv
            split at hv
            · cases hv
            split at hv
            · rename_i hg
              exact .inl ⟨_, hg⟩
            · cases hv
          refine fin hkn fun X hX' => ?_
          rw [k2]
          refine aLoad_get ((hide_out (by omega)).trans ?_)
          rcases hX' with rfl | ⟨k, hk, hM⟩
          · rfl
          · obtain ⟨ιk, w, _⟩ := g.hist k X hM
            refine (w.same q.1 j hlt hact k1 ?_).symm
            have : hs.drop k = (hs.drop lo).drop (k - lo) := by rw [List.drop_drop]; congr 1; omega
            rw [this]
            have mono : ∀ (r : List (List Nat × WH)) (n : Nat), touches q.1 r = false → touches q.1 (r.drop n) = false := by
              intro r
              induction r with
              | nil => intro n _; simp [touches]
              | cons u r ih =>
                intro n h
                cases n with
                | zero => exact h
                | succ n => exact ih n (touches_cons.1 h).2
            exact mono _ _ hto
      | _ => simp at hok
  | bytesStr x =>
    cases x with
    | c w => simp [srcL] at hok
    | t t =>
      simp only [srcL, bornL, bornX] at hok
      simp only [LOp.sub, AX.sub, aL, AX.ev] at fin h1 ⊢
      have e0 := g.env t
      generalize hX : look l t = X at *
      cases X with
      | list sz len cs ex =>
        simp only at hok
        have hkn : known u = true := by
          split at hok
          · assumption
          · assumption
          · cases hok
        have hb : bornOf bt t ≤ lo + 1 := by
          split at hok
          · rename_i h _ _; exact Nat.le_of_ble_eq_true h
          · rename_i h _ _; exact Nat.le_of_ble_eq_true h
          · cases hok
        have hth : (thawed H base al || thawedAt hs lo base al) = true ∨ bornOf bt t = 0 := by
          split at hok
          · exact .inl (by assumption)
          · exact .inr (Nat.eq_of_beq_eq_true hok)
          · cases hok
        simp only [VL] at e0
        rcases e0 with ⟨_, _, s', e1⟩ | ⟨b, off, cap, ex', e1, _, _, _, q4⟩
        · exact fin hkn fun X _ => by rw [e1]; rfl
        refine fin hkn fun X hX' => ?_
        rw [e1]
        refine aBytesStr_get fun hl => ?_
        obtain ⟨c, ro, sl, g1, g2, g3, g4, g5⟩ := q4 hl
        have hout : ¬ (baseA ≤ b ∧ b < baseA + nk) := fun ⟨q1, q2⟩ => by
          rcases hth with ht | h0
          · rcases g.owned ht q1 q2 with o | ⟨k, Mk, ιk, hk, _, w, o⟩
            · exact g2 (.inl o)
            · have := w.env t (by omega)
              rw [hX] at this
              simp only [VL] at this
              rcases this with ⟨_, _, s', e2⟩ | ⟨b', _, _, _, e2, _, _, _, p4⟩
              · rw [e1] at e2; cases e2
              · rw [e1] at e2
                cases e2
                obtain ⟨_, _, _, _, p2, _⟩ := p4 hl
                exact p2 (.inl o)
          · have := g.start t h0
            rw [hX] at this
            simp only [VL] at this
            rcases this with ⟨_, _, s', e2⟩ | ⟨b', _, _, _, e2, _, _, _, p4⟩
            · rw [e1] at e2; cases e2
            · rw [e1] at e2
              cases e2
              obtain ⟨_, _, _, _, _, p3, _⟩ := p4 hl
              rw [g.m0] at p3
              omega
        refine (hide_out hout).trans ?_
        rcases hX' with rfl | ⟨k, hk, hM⟩
        · rfl
        · obtain ⟨ιk, w, _⟩ := g.hist k X hM
          have := w.env t (by omega)
          rw [hX] at this
          simp only [VL] at this
          rcases this with ⟨_, _, s', e2⟩ | ⟨b', _, _, _, e2, _, _, _, p4⟩
          · rw [e1] at e2; cases e2
          · rw [e1] at e2
            cases e2
            obtain ⟨_, _, _, _, p2, p3, _⟩ := p4 hl
            exact (w.keep.get b p3 (fun h => p2 (.inl h))).1.symm
      | slice p sz len cap ex =>
        cases p with
        | some q => simp [VL] at e0
        | none =>
          simp only at hok
          have hkn : known u = true := by
            split at hok
            · assumption
            · assumption
            · cases hok
          simp only [VL] at e0
          obtain ⟨_, s', e1⟩ := e0
          exact fin hkn fun X _ => by rw [e1]; rfl
      | acc b off sz n w =>
        simp only at hok
        split at hok
        case h_2 => cases hok
        rename_i hkn hlt hto
        have hlt : b < base := by simpa [Nat.blt_eq] using hlt
        simp only [VL] at e0
        obtain ⟨p, s', cap, ex, k2, k3, k4, k5, m, L, k6, k7, k8, k9⟩ := e0
        have hact : act ι H b := by
          simp only [LOp.sub, AX.sub, wL, AX.ev, hX] at hv
          split at hv
          · rename_i e; cases e
          · rename_i e
            cases e
            split at hv
            · rename_i hg
              exact .inl ⟨_, hg⟩
            · cases hv
          · rename_i e; cases e
          · cases hv
        refine fin hkn fun X hX' => ?_
        rw [k2]
        cases p with
        | none => rfl
        | some p =>
          refine aBytesStr_get fun hl => ?_
          have k9 := k9.resolve_right (fun h => hl h.2.1)
          obtain ⟨j, k1, k10⟩ := k9
          rw [g.to0 _ hlt] at k1
          have k10 := k10.resolve_right (fun h => hl h.1)
          have hpj : p.1 = j := by
            have := k10.1
            simp only [Option.some.injEq] at this
            rw [this]
          have hj := (g.low _ _ k1).2
          rw [hpj]
          refine (hide_out (by omega)).trans ?_
          rcases hX' with rfl | ⟨k, hk, hM⟩
          · rfl
          · obtain ⟨ιk, w', _⟩ := g.hist k X hM
            refine (w'.same b j hlt hact k1 ?_).symm
            have : hs.drop k = (hs.drop lo).drop (k - lo) := by rw [List.drop_drop]; congr 1; omega
            rw [this]
            have mono : ∀ (r : List (List Nat × WH)) (n : Nat), touches b r = false → touches b (r.drop n) = false := by
              intro r
              induction r with
              | nil => intro n _; simp [touches]
              | cons u r ih =>
                intro n h
                cases n with
                | zero => exact h
                | succ n => exact ih n (touches_cons.1 h).2
            exact mono _ _ hto
      | _ => simp at hok
  | mapLen x =>
    cases x with
    | c w => simp [srcL] at hok
    | t t =>
      simp only [srcL] at hok
      simp only [LOp.sub, AX.sub, aL, AX.ev] at fin h1 ⊢
      have e0 := g.env t
      generalize hX : look l t = X at *
      cases X with
      | map p =>
        cases p with
        | none => simp at hok
        | some q =>
          simp only at hok
          split at hok
          case h_2 => cases hok
          rename_i hkn hlt hto
          have hlt : q < base := by simpa [Nat.blt_eq] using hlt
          simp only [VL] at e0
          obtain ⟨j, k1, k2⟩ := e0
          rw [g.to0 _ hlt] at k1
          have hj := (g.low _ _ k1).2
          have hact : act ι H q := by
            simp only [LOp.sub, AX.sub, wL, AX.ev, hX] at hv
            split at hv
            · rename_i hg
              exact .inl ⟨_, hg⟩
            · cases hv
          refine fin hkn fun X hX' => ?_
          rw [k2]
          have hget : (X.hide baseA nk).get j = M.get j := by
            refine (hide_out (by omega)).trans ?_
            rcases hX' with rfl | ⟨k, hk, hM⟩
            · rfl
            · obtain ⟨ιk, w, _⟩ := g.hist k X hM
              refine (w.same q j hlt hact k1 ?_).symm
              have : hs.drop k = (hs.drop lo).drop (k - lo) := by rw [List.drop_drop]; congr 1; omega
              rw [this]
              have mono : ∀ (r : List (List Nat × WH)) (n : Nat), touches q r = false → touches q (r.drop n) = false := by
                intro r
                induction r with
                | nil => intro n _; simp [touches]
                | cons u r ih =>
                  intro n h
                  cases n with
                  | zero => exact h
                  | succ n => exact ih n (touches_cons.1 h).2
              exact mono _ _ hto
          simp only [aEntries, hget]
      | _ => simp at hok
  | lookup kd ok z x w2 =>
    cases x with
    | c w => simp [srcL] at hok
    | t t =>
      simp only [srcL] at hok
      simp only [LOp.sub, AX.sub, aL, AX.ev] at fin h1 ⊢
      have e0 := g.env t
      generalize hX : look l t = X at *
      cases X with
      | map p =>
        cases p with
        | none => simp at hok
        | some q =>
          simp only at hok
          split at hok
          case h_2 => cases hok
          rename_i hkn hlt hto
          have hlt : q < base := by simpa [Nat.blt_eq] using hlt
          simp only [VL] at e0
          obtain ⟨j, k1, k2⟩ := e0
          rw [g.to0 _ hlt] at k1
          have hj := (g.low _ _ k1).2
          have hact : act ι H q := by
            simp only [LOp.sub, AX.sub, wL, AX.ev, hX] at hv
            split at hv
            · rename_i hg _
              exact .inl ⟨_, hg⟩
            · cases hv
          refine fin hkn fun X hX' => ?_
          rw [k2]
          have hget : (X.hide baseA nk).get j = M.get j := by
            refine (hide_out (by omega)).trans ?_
            rcases hX' with rfl | ⟨k, hk, hM⟩
            · rfl
            · obtain ⟨ιk, w, _⟩ := g.hist k X hM
              refine (w.same q j hlt hact k1 ?_).symm
              have : hs.drop k = (hs.drop lo).drop (k - lo) := by rw [List.drop_drop]; congr 1; omega
              rw [this]
              have mono : ∀ (r : List (List Nat × WH)) (n : Nat), touches q r = false → touches q (r.drop n) = false := by
                intro r
                induction r with
                | nil => intro n _; simp [touches]
                | cons u r ih =>
                  intro n h
                  cases n with
                  | zero => exact h
                  | succ n => exact ih n (touches_cons.1 h).2
              exact mono _ _ hto
          simp only [aLookup, aEntries, hget]
      | _ => simp at hok

theorem laterGo_ok {o : LOp} {x : Option AV} {k : TS → Prop} : ∀ {hs : List (List Nat × WH)} {tr : TS}, laterGo o x k hs tr → ∃ tr', (∀ (i : Nat) (t : List Nat) (Hk : WH), hs[i]? = some (t, Hk) → wL o Hk = x) ∧ k tr'
  | [], tr, h => ⟨tr, fun i t Hk e => by simp at e, h⟩
  | p :: r, tr, h => by
    simp only [laterGo] at h
    obtain ⟨_, h1, h2⟩ := need_ok h
    obtain ⟨tr', q1, q2⟩ := laterGo_ok h2
    refine ⟨tr', fun i t Hk e => ?_, q2⟩
    cases i with
    | zero => simp only [List.getElem?_cons_zero, Option.some.injEq] at e; rw [e] at h1; exact h1
    | succ i => exact q1 i t Hk (by simpa using e)

/-- A load of what does not hang on names, out of a block that was written to, but bears what it bore. -/
theorem load_later (g : DI R base baseA nk ι0 M0 ι H M l lA bt al hs histA) {o : LOp} (hc : o.okc = true) {v u : AV} (hv : wL (o.sub (look l)) H = some v) (hu : ∀ (M : Heap) (O : Nat → Prop) (κ : VI) (a : AV), VL M O κ v a → VL M O κ u a) {lo : Nat} (hok : laterB base l bt lo o u = true)
    (hl : ∀ (i : Nat) (t : List Nat) (Hk : WH), (hs.drop lo)[i]? = some (t, Hk) → wL (o.sub (look l)) Hk = wL (o.sub (look l)) H) :
    ∃ a, aL (o.sub (look lA)) [] (M.hide baseA nk) = some a ∧ VL M (OR R ι) ι u a ∧ ∀ k Mk, lo ≤ k → histA[k]? = some Mk → ∃ w, aL (o.sub (look lA)) [] (Mk.hide baseA nk) = some w ∧ AV.same w a = true := by
  obtain ⟨a, h1, h2⟩ := wL_ok g.vs g.env hc hv
  have h3 := hu _ _ _ _ h2
  have rig : ∀ {M' : Heap} {O : Nat → Prop} {κ : VI} {w : AV}, laterB base l bt lo o u = true → VL M' O κ u w → w = a := by
    intro M' O κ w hb hw
    unfold laterB at hb
    split at hb
    case h_2 => cases hb
    split at hb
    · simp only [VL] at hw h3; rw [hw, h3]
    · simp only [VL] at hw h3; rw [hw, h3]
    · simp only [VL] at hw h3; rw [hw, h3]
    · cases hb
  have hkn : known u = true := by
    unfold laterB at hok
    split at hok
    case h_2 => cases hok
    split at hok
    · rfl
    · rfl
    · rfl
    · cases hok
  cases o with
  | load ag n x =>
    cases x with
    | c w => simp [laterB] at hok
    | t t =>
      have hp : ∃ b off, look l t = .ptr (some (b, off)) ∧ b < base ∧ bornOf bt t ≤ lo + 1 := by
        simp only [laterB] at hok
        split at hok
        · rename_i b off _ _ hX
          simp only [Bool.and_eq_true, Nat.blt_eq] at hok
          exact ⟨b, off, hX, hok.1, Nat.le_of_ble_eq_true hok.2⟩
        · rename_i b off _ hX
          simp only [Bool.and_eq_true, Nat.blt_eq] at hok
          exact ⟨b, off, hX, hok.1, Nat.le_of_ble_eq_true hok.2⟩
        · rename_i b off _ hX
          simp only [Bool.and_eq_true, Nat.blt_eq] at hok
          exact ⟨b, off, hX, hok.1, Nat.le_of_ble_eq_true hok.2⟩
        · cases hok
      obtain ⟨b, off, hX, hlt, hbt⟩ := hp
      have e0 := g.env t
      rw [hX] at e0
      simp only [VL] at e0
      obtain ⟨j, k1, k2⟩ := e0
      rw [g.to0 _ hlt] at k1
      have hj := (g.low _ _ k1).2
      have hide : ∀ X : Heap, aL (LOp.sub (look lA) (.load ag n (.t t))) [] (X.hide baseA nk) = aL (LOp.sub (look lA) (.load ag n (.t t))) [] X := by
        intro X
        simp only [LOp.sub, AX.sub, aL, AX.ev]
        rw [k2]
        exact aLoad_get (hide_out (by omega))
      refine ⟨a, (hide M).trans h1, h3, fun k Mk hk hM => ?_⟩
      obtain ⟨ιk, w, tk, Hk, w2, w3⟩ := g.hist k Mk hM
      have hce : ∀ s, VL Mk (OR R ιk) ιk (cutR bt (k + 1) (look l) s) (look lA s) := fun s => by
        unfold cutR
        split
        · rename_i hb; exact w.env s hb
        · simp [VL]
      have hsub : LOp.sub (cutR bt (k + 1) (look l)) (.load ag n (.t t)) = LOp.sub (look l) (.load ag n (.t t)) := by
        simp only [LOp.sub, AX.sub, cutR]
        rw [if_pos (by omega)]
      have hv' : wL (LOp.sub (cutR bt (k + 1) (look l)) (.load ag n (.t t))) Hk = some v := by
        rw [hsub, hl (k - lo) tk Hk (by rw [List.getElem?_drop, show lo + (k - lo) = k by omega]; exact w2)]
        exact hv
      obtain ⟨w', q1, q2⟩ := wL_ok w3 hce hc hv'
      have := rig hok (hu _ _ _ _ q2)
      subst this
      exact ⟨w', (hide Mk).trans q1, VL.selfsame u w' hkn h3⟩
  | _ => simp [laterB] at hok

/-- What was loaded was there from the beginning. -/
theorem load_early (g : DI R base baseA nk ι0 M0 ι H M l lA bt al hs histA) {o : LOp} (hc : o.okc = true) {v u a : AV} (hv : wL (o.sub (look l)) H = some v) (hu : ∀ (M : Heap) (O : Nat → Prop) (κ : VI) (a : AV), VL M O κ v a → VL M O κ u a) {lo b : Nat} (hok : loadOk base al l bt lo o u H hs = true)
    (hb : srcB l o = some b) (hbt : Nat.ble (bornL bt o) (lo + 1) = true) (ha : aL (o.sub (look lA)) [] (M.hide baseA nk) = some a)
    (hl : ∀ (i : Nat) (t : List Nat) (Hk : WH), (hs.drop lo)[i]? = some (t, Hk) → wL (o.sub (look l)) Hk = wL (o.sub (look l)) H) :
    ∀ k Mk ιk t Hk, histA[k]? = some Mk → HK R base baseA nk k ι0 ι H M l lA bt hs Mk ιk → hs[k]? = some (t, Hk) → VS R ιk Hk Mk → lo + 1 ≤ k + 1 → VL Mk (OR R ιk) ιk u a := by
  intro k Mk ιk tk Hk hM w w2 w3 hk
  cases o with
  | load ag n x =>
    cases x with
    | c w => simp [srcB] at hb
    | t t =>
      simp only [bornL, bornX] at hbt
      have hbt := Nat.le_of_ble_eq_true hbt
      unfold loadOk at hok
      simp only [srcL, bornL, bornX] at hok
      simp only [srcB] at hb
      have e0 := g.env t
      have hX0 : ∃ q, look l t = .ptr (some q) := by
        split at hb
        · rename_i q h; exact ⟨q, h⟩
        · cases hb
      obtain ⟨q, hX⟩ := hX0
      rw [hX] at hok e0
      simp only at hok
      split at hok
      case h_2 => cases hok
      rename_i hkn hlt hto
      have hlt : q.1 < base := by simpa [Nat.blt_eq] using hlt
      simp only [VL] at e0
      obtain ⟨j, k1, k2⟩ := e0
      rw [g.to0 _ hlt] at k1
      have hj := (g.low _ _ k1).2
      have hact : act ι H q.1 := by
        simp only [LOp.sub, AX.sub, wL, AX.ev, hX] at hv
        split at hv
        · cases hv
        split at hv
        · rename_i hg
          exact .inl ⟨_, hg⟩
        · cases hv
      have hsame : M.get j = Mk.get j := by
        refine w.same q.1 j hlt hact k1 ?_
        have : hs.drop k = (hs.drop lo).drop (k - lo) := by rw [List.drop_drop]; congr 1; omega
        rw [this]
        have mono : ∀ (r : List (List Nat × WH)) (n : Nat), touches q.1 r = false → touches q.1 (r.drop n) = false := by
          intro r
          induction r with
          | nil => intro n _; simp [touches]
          | cons u r ih =>
            intro n h
            cases n with
            | zero => exact h
            | succ n => exact ih n (touches_cons.1 h).2
        exact mono _ _ hto
      have eqk : aL (LOp.sub (look lA) (.load ag n (.t t))) [] Mk = aL (LOp.sub (look lA) (.load ag n (.t t))) [] (M.hide baseA nk) := by
        simp only [LOp.sub, AX.sub, aL, AX.ev]
        rw [k2]
        exact aLoad_get (hsame.symm.trans (hide_out (by omega)).symm)
      have hce : ∀ s, VL Mk (OR R ιk) ιk (cutR bt (k + 1) (look l) s) (look lA s) := fun s => by
        unfold cutR
        split
        · rename_i hb; exact w.env s hb
        · simp [VL]
      have hsub : LOp.sub (cutR bt (k + 1) (look l)) (.load ag n (.t t)) = LOp.sub (look l) (.load ag n (.t t)) := by
        simp only [LOp.sub, AX.sub, cutR]
        rw [if_pos (by omega)]
      have hv' : wL (LOp.sub (cutR bt (k + 1) (look l)) (.load ag n (.t t))) Hk = some v := by
        rw [hsub, hl (k - lo) tk Hk (by rw [List.getElem?_drop, show lo + (k - lo) = k by omega]; exact w2)]
        exact hv
      obtain ⟨w', q1, q2⟩ := wL_ok w3 hce hc hv'
      rw [eqk, ha] at q1
      obtain rfl := Option.some.inj q1
      exact hu _ _ _ _ q2
  | _ => simp [srcB] at hb
end

end Go.Proofs.Ytlcjmchhnbdepaa
end
