/- V, fifth part: regions. -/
import Derived.Test.YtachollgbplikaaAm28
set_option linter.all false
set_option linter.unusedSimpArgs false
namespace Go.Proofs.Ytachollgbplikaa

def EnvR (ι : VI) (M : Heap) (l lA : Fast) : Prop := ∀ t, VL M (own ι) ι (look l t) (look lA t)

theorem EnvR.step {ι ι' : VI} {H M M' : Heap} (s : VS ι H M) (k : Stp H.next ι M ι' M') {l lA : Fast} (h : EnvR ι M l lA) : EnvR ι' M' l lA := fun t => VL.step s k (h t)

theorem look_bput (n : Nat) (d : Option Nat) (v : AV) (l : Fast) (t : Nat) : look (bput n d v l) t = if d = some t ∧ t < n then v else look l t := by
  cases d with
  | none => simp [bput]
  | some d =>
    simp only [bput]
    cases hb : Nat.blt d n with
    | true =>
      have hd : d < n := by simpa [Nat.blt_eq] using hb
      simp only [look]
      cases he : Nat.beq d t with
      | true =>
        obtain rfl := Nat.eq_of_beq_eq_true he
        simp [hd]
      | false =>
        have : d ≠ t := fun h => by subst h; rw [Nat.beq_refl] at he; cases he
        simp [this]
    | false =>
      have hd : ¬ d < n := fun h => by
        have : Nat.blt d n = true := by simpa [Nat.blt_eq] using h
        rw [hb] at this
        cases this
      simp only
      rw [if_neg]
      rintro ⟨h1, h2⟩
      obtain rfl := Option.some.inj h1
      exact hd h2

theorem EnvR.put {ι : VI} {M : Heap} {l lA : Fast} (h : EnvR ι M l lA) (n : Nat) (d : Option Nat) {v a : AV} (hv : VL M (own ι) ι v a) : EnvR ι M (bput n d v l) (bput n d a lA) := fun t => by
  rw [look_bput, look_bput]
  split
  · exact hv
  · exact h t

theorem bwanted_rel {ι : VI} {M : Heap} {l lA : Fast} (h : EnvR ι M l lA) {g : Option (Nat × Bool)} {w : Bool} (hw : bwanted g l = some w) : bwanted g lA = some w := by
  cases g with
  | none => exact hw
  | some p =>
    obtain ⟨t, want⟩ := p
    simp only [bwanted] at hw ⊢
    have := h t
    generalize look l t = x at *
    generalize look lA t = y at *
    cases x <;> simp only at hw <;> first | (cases hw; done) | skip
    · simp only [VL] at this
      subst this
      exact hw
    · simp only [VL] at this
      obtain ⟨cs', rfl, _⟩ := this
      exact hw

theorem vops_ok {c : VCalls} {C : ACalls} (hC : VSim c C) {fr : Fr} {n : Nat} : ∀ (ops : List AOper) (l lA : Fast) (H M : Heap) (ι : VI) (r : Fast × Heap), VS ι H M → fr.mark ≤ H.next → EnvR ι M l lA → (ops.all fun o => o.op.okc) = true →
    vops c fr n ops l H = some r → ∃ lA' M' ι', bops C n ops lA M = some (lA', M') ∧ Res fr H.next ι H M ι' r.2 M' ∧ EnvR ι' M' r.1 lA'
  | [], l, lA, H, M, ι, r, s, hm, he, hc, h => by
    obtain rfl := Option.some.inj h
    exact ⟨lA, M, ι, rfl, .refl s, he⟩
  | o :: rest, l, lA, H, M, ι, r, s, hm, he, hc, h => by
    simp only [List.all_cons, Bool.and_eq_true] at hc
    simp only [vops] at h
    simp only [bops]
    split at h
    · rename_i hw
      rw [bwanted_rel he hw]
      simp only
      split at h
      case h_2 => cases h
      rename_i p hp
      obtain ⟨a, M1, ι1, h1, h2, h3⟩ := vop_ok hC s hm he hc.1 hp
      rw [h1]
      simp only [force_eq]
      obtain ⟨lA', M', ι', g1, g2, g3⟩ := vops_ok hC rest _ _ _ _ _ r h2.vs (Nat.le_trans hm h2.next) ((he.step s h2.stp).put n o.dst h3) hc.2 h
      exact ⟨lA', M', ι', g1, h2.trans g2 h2.next, g3⟩
    · rename_i hw
      rw [bwanted_rel he hw]
      exact vops_ok hC rest _ _ _ _ _ r s hm (he.put n o.dst VL.unit) hc.2 h
    · cases h

/-! ### Drawn regions -/

mutual
theorem VL.same {M M' : Heap} {O O' : Nat → Prop} {κ κ' : VI} (hle : ∀ i j, κ i = some j → κ' i = some j) : ∀ (v a b : AV), AV.same v v = true → VL M O κ v a → VL M' O' κ' v b → AV.same a b = true
  | .undef, _, _, h, _, _ => by simp [AV.same] at h
  | .bool _, _, _, _, e, f => by simp only [VL] at e f; subst e f; simp [AV.same]
  | .int _ _, _, _, _, e, f => by simp only [VL] at e f; subst e f; simp [AV.same]
  | .str _, _, _, _, e, f => by simp only [VL] at e f; subst e f; simp [AV.same]
  | .ptr none, _, _, _, e, f => by simp only [VL] at e f; subst e f; simp [AV.same]
  | .ptr (some q), _, _, _, e, f => by
    simp only [VL] at e f
    obtain ⟨j, h1, rfl⟩ := e
    obtain ⟨j', h2, rfl⟩ := f
    rw [hle _ _ h1] at h2
    obtain rfl := Option.some.inj h2
    simp [AV.same]
  | .slice none _ _ _ _, _, _, _, e, f => by simp only [VL] at e f; subst e f; simp [AV.same]
  | .slice (some q) _ _ _ _, _, _, _, e, f => by
    simp only [VL] at e f
    obtain ⟨j, h1, rfl⟩ := e
    obtain ⟨j', h2, rfl⟩ := f
    rw [hle _ _ h1] at h2
    obtain rfl := Option.some.inj h2
    simp [AV.same]
  | .map none, _, _, _, e, f => by simp only [VL] at e f; subst e f; simp [AV.same]
  | .map (some q), _, _, _, e, f => by
    simp only [VL] at e f
    obtain ⟨j, h1, rfl⟩ := e
    obtain ⟨j', h2, rfl⟩ := f
    rw [hle _ _ h1] at h2
    obtain rfl := Option.some.inj h2
    simp [AV.same]
  | .func g cs, _, _, h, e, f => by
    simp only [VL] at e f
    obtain ⟨x, rfl, h1⟩ := e
    obtain ⟨y, rfl, h2⟩ := f
    simp only [AV.same, Bool.and_eq_true] at h ⊢
    exact ⟨by simp, VLL.same' hle cs x y h.2 h1 h2⟩
  | .nilFunc, _, _, _, e, f => by simp only [VL] at e f; subst e f; simp [AV.same]
  | .agg cs, _, _, h, e, f => by
    simp only [VL] at e f
    obtain ⟨x, rfl, h1⟩ := e
    obtain ⟨y, rfl, h2⟩ := f
    simp only [AV.same] at h ⊢
    exact VLL.same' hle cs x y h h1 h2
  | .tuple cs, _, _, h, e, f => by
    simp only [VL] at e f
    obtain ⟨x, rfl, h1⟩ := e
    obtain ⟨y, rfl, h2⟩ := f
    simp only [AV.same] at h ⊢
    exact VLL.same' hle cs x y h h1 h2
  | .list .., _, _, h, _, _ => by simp [AV.same] at h
  | .elem _, _, _, h, _, _ => by simp [AV.same] at h
  | .acc .., _, _, h, _, _ => by simp [AV.same] at h
theorem VLL.same' {M M' : Heap} {O O' : Nat → Prop} {κ κ' : VI} (hle : ∀ i j, κ i = some j → κ' i = some j) : ∀ (l a b : List AV), AV.sameL l l = true → VLL M O κ l a → VLL M' O' κ' l b → AV.sameL a b = true
  | [], [], [], _, _, _ => by simp [AV.sameL]
  | v :: l, x :: a, y :: b, h, e, f => by
    simp only [VLL] at e f
    simp only [AV.sameL, Bool.and_eq_true] at h ⊢
    exact ⟨VL.same hle v x y h.1 e.1 f.1, VLL.same' hle l a b h.2 e.2 f.2⟩
  | [], _ :: _, _, _, e, _ => by simp [VLL] at e
  | [], [], _ :: _, _, _, f => by simp [VLL] at f
  | _ :: _, [], _, _, e, _ => by simp [VLL] at e
  | _ :: _, _ :: _, [], _, _, f => by simp [VLL] at f
end

mutual
theorem VL.selfsame {M : Heap} {O : Nat → Prop} {κ : VI} : ∀ (v a : AV), known v = true → VL M O κ v a → AV.same a a = true
  | .undef, _, h, _ => by simp [known] at h
  | .bool _, _, _, e => by simp only [VL] at e; subst e; simp [AV.same]
  | .int _ _, _, _, e => by simp only [VL] at e; subst e; simp [AV.same]
  | .str _, _, _, e => by simp only [VL] at e; subst e; simp [AV.same]
  | .ptr none, _, _, e => by simp only [VL] at e; subst e; simp [AV.same]
  | .ptr (some q), _, _, e => by simp only [VL] at e; obtain ⟨j, h1, rfl⟩ := e; simp [AV.same]
  | .slice none _ _ _ _, _, _, e => by simp only [VL] at e; subst e; simp [AV.same]
  | .slice (some q) _ _ _ _, _, _, e => by simp only [VL] at e; obtain ⟨j, h1, rfl⟩ := e; simp [AV.same]
  | .map none, _, _, e => by simp only [VL] at e; subst e; simp [AV.same]
  | .map (some q), _, _, e => by simp only [VL] at e; obtain ⟨j, h1, rfl⟩ := e; simp [AV.same]
  | .func g cs, _, h, e => by
    simp only [VL] at e
    obtain ⟨x, rfl, h1⟩ := e
    simp only [AV.same, Bool.and_eq_true]
    exact ⟨by simp, VLL.selfsame cs x (by simpa [known] using h) h1⟩
  | .nilFunc, _, _, e => by simp only [VL] at e; subst e; simp [AV.same]
  | .agg cs, _, h, e => by
    simp only [VL] at e
    obtain ⟨x, rfl, h1⟩ := e
    simp only [AV.same]
    exact VLL.selfsame cs x (by simpa [known] using h) h1
  | .tuple cs, _, h, e => by
    simp only [VL] at e
    obtain ⟨x, rfl, h1⟩ := e
    simp only [AV.same]
    exact VLL.selfsame cs x (by simpa [known] using h) h1
  | .list .., _, _, e => by simp only [VL] at e; rcases e with ⟨_, _, _, rfl⟩ | ⟨b, o, cap, ex', rfl, _⟩ <;> simp [AV.same]
  | .elem _, _, _, e => by simp only [VL] at e; obtain ⟨b, o, c, ro, sl, rfl, _⟩ := e; simp [AV.same]
  | .acc .., _, _, e => by simp only [VL] at e; obtain ⟨p, s', cap, ex, rfl, _⟩ := e; simp [AV.same]
theorem VLL.selfsame {M : Heap} {O : Nat → Prop} {κ : VI} : ∀ (l a : List AV), knownL l = true → VLL M O κ l a → AV.sameL a a = true
  | [], [], _, _ => by simp [AV.sameL]
  | v :: l, x :: a, h, e => by
    simp only [VLL] at e
    simp only [knownL, Bool.and_eq_true] at h
    simp only [AV.sameL, Bool.and_eq_true]
    exact ⟨VL.selfsame v x h.1 e.1, VLL.selfsame l a h.2 e.2⟩
  | [], _ :: _, _, e => by simp [VLL] at e
  | _ :: _, [], _, e => by simp [VLL] at e
end

theorem thawed_ok {ι : VI} {H M : Heap} (s : VS ι H M) {base : Nat} : ∀ {nk : Nat}, thawed H base nk = true → ∀ i, i < nk → ι.gone (base + i) = false
  | 0, _, i, hi => by omega
  | k + 1, h, i, hi => by
    simp only [thawed, Bool.and_eq_true] at h
    rcases Nat.lt_or_ge i k with hk | hk
    · exact thawed_ok s h.2 i hk
    · obtain rfl : i = k := by omega
      cases hg : ι.gone (base + i) with
      | false => rfl
      | true =>
        obtain ⟨c, sl, e⟩ := s.ice _ hg
        rw [e] at h
        simp at h

/-- Without the region's own blocks. -/
theorem VS.hide {ι : VI} {H M : Heap} (s : VS ι H M) {base baseA nk : Nat} (hB : ∀ i, i < nk → ι (base + i) = some (baseA + i)) (hG : ∀ i, i < nk → ι.gone (base + i) = false) :
    VS ι (H.hide base nk) (M.hide baseA nk) ∧ Keeps M (own ι) (M.hide baseA nk) (own ι) := by
  have hk : Keeps M (own ι) (M.hide baseA nk) (own ι) := ⟨Nat.le_refl _, fun b hb ho => ⟨by
    simp only [Heap.hide]
    rw [if_neg]
    rintro ⟨h1, h2⟩
    exact ho ⟨base + (b - baseA), by rw [hB _ (by omega)]; congr 1; omega, hG _ (by omega)⟩, ho⟩⟩
  refine ⟨⟨s.lt, s.inj, fun i x hx => ?_, s.solt, fun i hi => ?_, fun i hi => ?_, fun i hi => ?_⟩, hk⟩
  · simp only [Heap.hide] at hx
    split at hx
    · cases hx
    rename_i hn
    rcases s.blk i x hx with h | ⟨j, h1, h2, h3⟩
    · exact .inl h
    refine .inr ⟨j, h1, ?_, h3⟩
    simp only [Heap.hide]
    rw [if_neg]
    · exact h2.mono hk (fun _ => .refl _ _)
    · rintro ⟨g1, g2⟩
      have := hB (j - baseA) (by omega)
      rw [show baseA + (j - baseA) = j from by omega] at this
      have := s.inj _ _ _ h1 this
      omega
  · simp only [Heap.hide]
    rw [if_neg]
    · exact s.ice i hi
    · rintro ⟨g1, g2⟩
      have := hG (i - base) (by omega)
      rw [show base + (i - base) = i from by omega, hi] at this
      cases this
  · simp only [Heap.hide]
    split
    · rfl
    · exact s.okH i hi
  · simp only [Heap.hide]
    split
    · rfl
    · exact s.okM i hi

/-- What is known of a heap ahead. -/
structure HistK (base baseA nk k : Nat) (ι : VI) (M : Heap) (l lA : Fast) (bt : List (Nat × Nat)) (Hk Mk : Heap) (ιk : VI) : Prop where
  vs : VS ιk Hk Mk
  le : ∀ S, VI.Le ιk ι S
  gone : ∀ i, ιk.gone i = true → ι.gone i = true
  warm : k = 0 → ∀ i, i < nk → ιk.gone (base + i) = false
  keep : Keeps Mk (own ιk) M (own ι)
  new : ∀ i, i < nk → ιk (base + i) = some (baseA + i)
  env : ∀ t, bornOf bt t ≤ k → VL Mk (own ιk) ιk (look l t) (look lA t)

theorem HistK.to {base baseA nk k : Nat} {ι : VI} {M : Heap} {l lA : Fast} {bt : List (Nat × Nat)} {Hk Mk : Heap} {ιk : VI} (g : HistK base baseA nk k ι M l lA bt Hk Mk ιk) {i j : Nat} (h : ιk i = some j) : ι i = some j :=
  (g.le [i] i (by simp)).1 j h
theorem HistK.sol {base baseA nk k : Nat} {ι : VI} {M : Heap} {l lA : Fast} {bt : List (Nat × Nat)} {Hk Mk : Heap} {ιk : VI} (g : HistK base baseA nk k ι M l lA bt Hk Mk ιk) {i : Nat} (h : ιk.sol i = true) : ι.sol i = true :=
  (g.le [i] i (by simp)).2 h

def HistR (base baseA nk : Nat) (ι : VI) (M : Heap) (l lA : Fast) (bt : List (Nat × Nat)) (hist histA : List Heap) : Prop :=
  hist.length = histA.length ∧ ∀ k Hk Mk, hist[k]? = some Hk → histA[k]? = some Mk → ∃ ιk, HistK base baseA nk k ι M l lA bt Hk Mk ιk

theorem bornOf_put (n : Nat) (d : Option Nat) (k : Nat) (bt : List (Nat × Nat)) (t : Nat) : bornOf (bornPut n d k bt) t = if d = some t ∧ t < n then k else bornOf bt t := by
  cases d with
  | none => simp [bornPut]
  | some d =>
    simp only [bornPut]
    cases hb : Nat.blt d n with
    | true =>
      have hd : d < n := by simpa [Nat.blt_eq] using hb
      simp only [bornOf]
      by_cases he : d = t
      · subst he
        simp [hd]
      · simp [he]
    | false =>
      have hd : ¬ d < n := fun h => by
        have : Nat.blt d n = true := by simpa [Nat.blt_eq] using h
        rw [hb] at this
        cases this
      simp only
      rw [if_neg]
      rintro ⟨h1, h2⟩
      obtain rfl := Option.some.inj h1
      exact hd h2

theorem HistR.step {base baseA nk : Nat} {ι ι' : VI} {M M' : Heap} {l lA : Fast} {bt : List (Nat × Nat)} {hist histA : List Heap} (h : HistR base baseA nk ι M l lA bt hist histA)
    (hle : ∀ S, VI.Le ι ι' S) (hgo : ∀ i, ι.gone i = true → ι'.gone i = true) (hk : Keeps M (own ι) M' (own ι')) : HistR base baseA nk ι' M' l lA bt hist histA :=
  ⟨h.1, fun k Hk Mk h1 h2 => by
    obtain ⟨ιk, g⟩ := h.2 k Hk Mk h1 h2
    exact ⟨ιk, g.vs, fun S i hi => ⟨fun j hj => (hle S i hi).1 j ((g.le S i hi).1 j hj), fun hj => (hle S i hi).2 ((g.le S i hi).2 hj)⟩, fun i hi => hgo i (g.gone i hi), g.warm, g.keep.trans hk, g.new, g.env⟩⟩

theorem HistR.put {base baseA nk : Nat} {ι : VI} {M : Heap} {l lA : Fast} {bt : List (Nat × Nat)} {hist histA : List Heap} (h : HistR base baseA nk ι M l lA bt hist histA) (n : Nat) (d : Option Nat) (b : Nat) {v a : AV}
    (hv : ∀ k Hk Mk ιk, hist[k]? = some Hk → histA[k]? = some Mk → HistK base baseA nk k ι M l lA bt Hk Mk ιk → b ≤ k → VL Mk (own ιk) ιk v a) : HistR base baseA nk ι M (bput n d v l) (bput n d a lA) (bornPut n d b bt) hist histA :=
  ⟨h.1, fun k Hk Mk h1 h2 => by
    obtain ⟨ιk, g⟩ := h.2 k Hk Mk h1 h2
    refine ⟨ιk, g.vs, g.le, g.gone, g.warm, g.keep, g.new, fun t ht => ?_⟩
    rw [bornOf_put] at ht
    rw [look_bput, look_bput]
    split
    · rename_i hc
      rw [if_pos hc] at ht
      exact hv k Hk Mk ιk h1 h2 g ht
    · rename_i hc
      rw [if_neg hc] at ht
      exact g.env t ht⟩

/-- Of what was not known yet: nothing. -/
theorem HistR.put_now {base baseA nk : Nat} {ι : VI} {M : Heap} {l lA : Fast} {bt : List (Nat × Nat)} {hist histA : List Heap} (h : HistR base baseA nk ι M l lA bt hist histA) (n : Nat) (d : Option Nat) (v a : AV) :
    HistR base baseA nk ι M (bput n d v l) (bput n d a lA) (bornPut n d hist.length bt) hist histA :=
  h.put n d _ fun k Hk Mk ιk h1 _ _ hb => by
    have := (List.getElem?_eq_some_iff.1 h1).1
    omega

theorem HistR.push {base baseA nk : Nat} {ι : VI} {H M : Heap} {l lA : Fast} {bt : List (Nat × Nat)} {hist histA : List Heap} (h : HistR base baseA nk ι M l lA bt hist histA) (s : VS ι H M) (he : EnvR ι M l lA) (hB : ∀ i, i < nk → ι (base + i) = some (baseA + i)) (hN : hist = [] → ∀ i, i < nk → ι.gone (base + i) = false) :
    HistR base baseA nk ι M l lA bt (hist ++ [H]) (histA ++ [M]) := by
  refine ⟨by simp [h.1], fun k Hk Mk h1 h2 => ?_⟩
  rcases Nat.lt_or_ge k hist.length with hk | hk
  · rw [List.getElem?_append_left hk] at h1
    rw [List.getElem?_append_left (by rw [← h.1]; exact hk)] at h2
    exact h.2 k Hk Mk h1 h2
  · rw [List.getElem?_append_right hk] at h1
    rw [List.getElem?_append_right (by rw [← h.1]; exact hk), ← h.1] at h2
    have : k - hist.length = 0 := by
      have := (List.getElem?_eq_some_iff.1 h1).1
      simp at this
      omega
    rw [this] at h1 h2
    simp at h1 h2
    subst h1 h2
    refine ⟨ι, s, fun _ => .refl _ _, fun _ h => h, fun h0 => hN ?_, .refl _ _, hB, fun t _ => he t⟩
    subst h0
    exact List.eq_nil_of_length_eq_zero (by omega)

def cutR (bt : List (Nat × Nat)) (k : Nat) (ρ : Nat → AV) : Nat → AV := fun t => if bornOf bt t ≤ k then ρ t else .undef

theorem cutR_ev {bt : List (Nat × Nat)} {k : Nat} {ρ : Nat → AV} {x : AX} (h : bornX bt x ≤ k) : x.sub (cutR bt k ρ) = x.sub ρ := by
  cases x with
  | t t => simp only [bornX] at h; simp [AX.sub, cutR, h]
  | c v => rfl

theorem cutR_evO {bt : List (Nat × Nat)} {k : Nat} {ρ : Nat → AV} {x : Option AX} (h : bornXO bt x ≤ k) : AX.subO (cutR bt k ρ) x = AX.subO ρ x := by
  cases x with
  | none => rfl
  | some x => simp only [bornXO] at h; simp [AX.subO, cutR_ev h]

theorem bornP_sub {bt : List (Nat × Nat)} {n k : Nat} {ρ : Nat → AV} {o : POp} (hk : k < n) (h : bornP bt n o ≤ k) : o.sub (cutR bt k ρ) = o.sub ρ := by
  cases o <;> simp only [bornP] at h <;> first
    | omega
    | (simp only [POp.sub, cutR_ev h]; done)
    | (simp only [Nat.max_le] at h; simp only [POp.sub, cutR_ev h.1, cutR_evO h.2.1, cutR_evO h.2.2.1, cutR_evO h.2.2.2]; done)
    | (simp only [Nat.max_le] at h; simp only [POp.sub, cutR_ev h.1, cutR_ev h.2]; done)

theorem cutR_rel {base baseA nk k : Nat} {ι : VI} {M : Heap} {l lA : Fast} {bt : List (Nat × Nat)} {Hk Mk : Heap} {ιk : VI} (g : HistK base baseA nk k ι M l lA bt Hk Mk ιk) : ∀ t, VL Mk (own ιk) ιk (cutR bt k (look l) t) (look lA t) := fun t => by
  unfold cutR
  split
  · rename_i h
    exact g.env t h
  · simp [VL]

/-- A load reads the same at a heap ahead. -/
theorem load_ahead {base baseA nk k : Nat} {ι : VI} {H M : Heap} {l lA : Fast} {bt : List (Nat × Nat)} {Hk Mk : Heap} {ιk : VI} (s : VS ι H M) (he : EnvR ι M l lA) (hB : ∀ i, i < nk → ι (base + i) = some (baseA + i)) (hG : ∀ i, i < nk → ι.gone (base + i) = false)
    (g : HistK base baseA nk k ι M l lA bt Hk Mk ιk) {o : LOp} (hc : o.okc = true) {lo : Nat} (hlo : lo ≤ k) {v a : AV} (hv : vL (o.sub (look l)) (H.hide base nk) = some v) (ha : aL (o.sub (look lA)) [] (M.hide baseA nk) = some a) (hva : VL (M.hide baseA nk) (own ι) ι v a)
    {hs : List Heap} (hin : Hk ∈ hs) (hok : loadOk base nk l bt lo o v hs = true) : ∃ u, aL (o.sub (look lA)) [] (Mk.hide baseA nk) = some u ∧ AV.same u a = true := by
  obtain ⟨s1, k1⟩ := s.hide hB hG
  obtain ⟨s2, k2⟩ := g.vs.hide g.new (fun i hi => by
    cases hg : ιk.gone (base + i) with
    | false => rfl
    | true =>
      have := g.gone _ hg
      rw [hG i hi] at this
      cases this)
  have here : ∀ {q j : Nat} {x : Blk}, ι q = some j → (Hk.hide base nk).get q = some x → ιk q = some j := by
    intro q j x e1 hx
    rcases s2.blk _ _ hx with ⟨h1, _⟩ | ⟨j', e2, _⟩
    · rw [(s.solt _ (g.sol h1)).2] at e1
      cases e1
    · have := g.to e2
      rw [e1] at this
      obtain rfl := Option.some.inj this
      exact e2
  unfold loadOk at hok
  split at hok
  · rename_i hl
    simp only [Bool.and_eq_true, decide_eq_true_eq] at hok
    obtain ⟨hb, hkn⟩ := hok
    have hself := VL.selfsame _ _ hkn hva
    refine ⟨a, ?_, hself⟩
    -- the same cells, which nobody wrote to
    cases o with
    | load ag n x =>
      cases x with
      | c w => simp [ofList] at hl
      | t t =>
        simp only [ofList] at hl
        simp only [bornL, bornX] at hb
        have r1 := g.env t (by omega)
        simp only [LOp.sub, AX.sub, vL, aL, AX.ev] at hv ha ⊢
        generalize look l t = X at *
        cases X with
        | elem cs =>
          simp only [VL] at r1
          obtain ⟨b, o, c, ro, sl, e1, g1, g2, g3, g4⟩ := r1
          rw [e1] at ha ⊢
          obtain ⟨f1, f2⟩ := (k2.get b g3 g2)
          obtain ⟨f3, f4⟩ := g.keep.get b g3 g2
          obtain ⟨f5, _⟩ := k1.get b (Nat.lt_of_lt_of_le g3 g.keep.next) f4
          have : (Mk.hide baseA nk).get b = (M.hide baseA nk).get b := by rw [f1, f5, f3]
          simp only [aLoad, Heap.read, this] at ha ⊢
          exact ha
        | list sz len cs ex => simp [aLoad] at hv
        | _ => simp [isList] at hl
    | bytesStr x =>
      cases x with
      | c w => simp [ofList] at hl
      | t t =>
        simp only [ofList] at hl
        simp only [bornL, bornX] at hb
        have r1 := g.env t (by omega)
        simp only [LOp.sub, AX.sub, vL, aL, AX.ev] at hv ha ⊢
        generalize look l t = X at *
        cases X with
        | elem cs => simp [aBytesStr] at hv
        | list sz len cs ex =>
          simp only [VL] at r1
          simp only at hv
          split at hv
          case isFalse => cases hv
          rename_i hsz
          subst hsz
          rcases r1 with ⟨_, _, s', e1⟩ | ⟨b, o, cap, ex', e1, q1, q2, q3, q4⟩
          · rw [e1] at ha ⊢
            exact ha
          rw [e1] at ha ⊢
          by_cases hl0 : len = 0
          · subst hl0
            simp only [aBytesStr, if_true] at ha ⊢
            exact ha
          · obtain ⟨c, ro, sl, g1, g2, g3, g4, g5⟩ := q4 hl0
            obtain ⟨f1, f2⟩ := (k2.get b g3 g2)
            obtain ⟨f3, f4⟩ := g.keep.get b g3 g2
            obtain ⟨f5, _⟩ := k1.get b (Nat.lt_of_lt_of_le g3 g.keep.next) f4
            have : (Mk.hide baseA nk).get b = (M.hide baseA nk).get b := by rw [f1, f5, f3]
            simp only [aBytesStr, if_neg hl0, Heap.read, this] at ha ⊢
            exact ha
        | _ => simp [isList] at hl
    | mapLen x => simp [ofList] at hl
    | lookup ok z x w => simp [ofList] at hl
  · rename_i hl
    rw [List.all_eq_true] at hok
    have hh := hok Hk hin
    split at hh
    case h_2 => cases hh
    rename_i u hu
    obtain rfl := AV.eq_of_same _ _ hh
    have fin : (∃ w, aL (o.sub (look lA)) [] (Mk.hide baseA nk) = some w ∧ VL (Mk.hide baseA nk) (own ιk) ιk u w) → ∃ w, aL (o.sub (look lA)) [] (Mk.hide baseA nk) = some w ∧ AV.same w a = true := by
      rintro ⟨w, h1, h2⟩
      exact ⟨w, h1, VL.same (fun i j h => g.to h) u w a hh h2 hva⟩
    refine fin ?_
    cases o with
    | load ag n x =>
      have hx := ev_rel he hc
      cases x with
      | c w =>
        simp only [LOp.sub, AX.sub, vL, aL, AX.ev] at hu ⊢
        have hc' : plainC w = true := hc
        cases w with
        | elem cs => simp [plainC] at hc'
        | _ => exact aLoad_rel s2 (VL.const _ hc') hu
      | t t =>
        simp only [ofList] at hl
        simp only [LOp.sub, AX.sub, vL, aL, AX.ev] at hu hx ⊢
        generalize look l t = X at *
        generalize look lA t = Y at *
        cases X with
        | elem cs => simp [isList] at hl
        | ptr p =>
          cases p with
          | none => simp [aLoad] at hu
          | some q =>
            refine aLoad_rel s2 (x := .ptr (some q)) ?_ hu
            simp only [VL] at hx ⊢
            obtain ⟨j, e1, rfl⟩ := hx
            have : ∃ x, (Hk.hide base nk).get q.1 = some x := by
              unfold aLoad at hu
              simp only at hu
              cases hg : (Hk.hide base nk).get q.1 with
              | some x => exact ⟨x, rfl⟩
              | none =>
                simp only [Heap.read, hg] at hu
                split at hu <;> simp at hu
            obtain ⟨x, hx⟩ := this
            exact ⟨j, here e1 hx, rfl⟩
        | _ => simp [aLoad] at hu
    | bytesStr x =>
      have hx := ev_rel he hc
      have key : ∀ (X Y : AV), VL M (own ι) ι X Y → isList X = false → aBytesStr X (Hk.hide base nk) = some u → ∃ w, aBytesStr Y (Mk.hide baseA nk) = some w ∧ VL (Mk.hide baseA nk) (own ιk) ιk u w := by
        intro X Y hXY hX hu
        cases X with
        | slice p sz len cap ex =>
          cases p with
          | none =>
            simp only [VL] at hXY
            subst hXY
            obtain ⟨h1, h2⟩ := aBytesStr_rel s2 (x := .slice none sz len cap ex) (x' := .slice none sz len cap ex) (by simp [VL]) hu
            exact ⟨_, h1, VL.scal h2⟩
          | some q =>
            simp only [VL] at hXY
            obtain ⟨j, e1, rfl⟩ := hXY
            by_cases hl0 : len = 0
            · subst hl0
              unfold aBytesStr at hu ⊢
              split at hu
              · rename_i e; cases e
              · rename_i e
                cases e
                simp only [if_true] at hu ⊢
                obtain rfl := Option.some.inj hu
                exact ⟨_, rfl, VL.scal rfl⟩
              · cases hu
            · have : ∃ x, (Hk.hide base nk).get q.1 = some x := by
                unfold aBytesStr at hu
                split at hu
                · rename_i e; cases e
                · rename_i b o _ _ _ e
                  cases e
                  rw [if_neg hl0] at hu
                  cases hg : (Hk.hide base nk).get b with
                  | some x => exact ⟨x, rfl⟩
                  | none => simp [Heap.read, hg] at hu
                · cases hu
              obtain ⟨x, hx⟩ := this
              have e2 := here e1 hx
              obtain ⟨h1, h2⟩ := aBytesStr_rel s2 (x := .slice (some q) sz len cap ex) (x' := .slice (some (j, q.2)) sz len cap ex) (by simp only [VL]; exact ⟨j, e2, rfl⟩) hu
              exact ⟨_, h1, VL.scal h2⟩
        | list => simp [isList] at hX
        | _ => simp [aBytesStr] at hu
      cases x with
      | c w =>
        have hc' : plainC w = true := hc
        simp only [LOp.sub, AX.sub, vL, aL, AX.ev] at hu hx ⊢
        cases w with
        | list => simp [plainC] at hc'
        | elem => simp [plainC] at hc'
        | acc => simp [plainC] at hc'
        | _ => exact key _ _ hx rfl hu
      | t t =>
        simp only [ofList] at hl
        simp only [LOp.sub, AX.sub, vL, aL, AX.ev] at hu hx ⊢
        generalize look l t = X at *
        generalize look lA t = Y at *
        cases X with
        | list => simp [isList] at hl
        | acc b off sz n w =>
          simp only at hu
          split at hu
          case isFalse => cases hu
          rename_i e
          subst e
          simp only [VL] at hx
          obtain ⟨p, s', cap, ex, rfl, g1, g2⟩ := hx
          obtain ⟨t', h2, rfl⟩ := Option.map_eq_some_iff.1 hu
          obtain ⟨cs, h3, h4⟩ := Option.bind_eq_some_iff.1 h2
          by_cases hl0 : n = 0
          · subst hl0
            obtain rfl := read_zero h3
            simp only [toBytes, Option.some.injEq] at h4
            subst h4
            cases p with
            | none => exact ⟨_, rfl, VL.scal rfl⟩
            | some p =>
              obtain rfl := g1.2.2 (by simp)
              exact ⟨_, by simp [aBytesStr], VL.scal rfl⟩
          · obtain ⟨j, q1, q2, _⟩ := g2.resolve_right (fun h => hl0 h.2.1)
            have hps := q2 hl0
            subst hps
            obtain rfl := g1.2.2 (by simp)
            have : ∃ x, (Hk.hide base nk).get b = some x := by
              cases hg : (Hk.hide base nk).get b with
              | some x => exact ⟨x, rfl⟩
              | none => simp [Heap.read, hg] at h3
            obtain ⟨x, hx⟩ := this
            obtain ⟨cs', h5, h6⟩ := s2.read (here q1 hx) h3
            refine ⟨.str t', ?_, VL.scal rfl⟩
            simp only [aBytesStr, if_neg hl0]
            rw [h5, Option.bind_some, toBytes_rel h6 h4]
            rfl
        | _ => exact key _ _ hx (by simpa using hl) hu
    | mapLen x => simp [LOp.sub, vL] at hu
    | lookup ok z x w => simp [LOp.sub, vL] at hu

theorem aLoad_get {g : Bool} {n b o : Nat} {X Y : Heap} (h : X.get b = Y.get b) : aLoad g n (.ptr (some (b, o))) X = aLoad g n (.ptr (some (b, o))) Y := by
  simp only [aLoad, Heap.read, h]
theorem aBytesStr_get {sz len cap : Nat} {ex : Bool} {b o : Nat} {X Y : Heap} (h : X.get b = Y.get b) : aBytesStr (.slice (some (b, o)) sz len cap ex) X = aBytesStr (.slice (some (b, o)) sz len cap ex) Y := by
  unfold aBytesStr
  split <;> first | rfl | skip
  rename_i e
  cases e
  simp only [Heap.read, h]

/-- A load out of a list that was there ahead of all loud operations. -/
theorem load_list {base baseA nk : Nat} {ι : VI} {H M : Heap} {l lA : Fast} {bt : List (Nat × Nat)} {hist histA : List Heap} (s : VS ι H M) (he : EnvR ι M l lA) (hh : HistR base baseA nk ι M l lA bt hist histA) (hne : hist ≠ [])
    {o : LOp} (hc : o.okc = true) (hof : ofList l o = true) (hb0 : bornL bt o = 0) {X : Heap} {v : AV} (hv : vL (o.sub (look l)) X = some v) (hkn : known v = true) :
    ∃ a, aL (o.sub (look lA)) [] (M.hide baseA nk) = some a ∧ VL M (own ι) ι v a ∧ ∀ Mk, Mk ∈ histA → ∃ u, aL (o.sub (look lA)) [] (Mk.hide baseA nk) = some u ∧ AV.same u a = true := by
  have hv' : vL (o.sub (look l)) H = some v := by
    cases o with
    | load ag n x =>
      cases x with
      | c w => simp [ofList] at hof
      | t t =>
        simp only [ofList] at hof
        simp only [LOp.sub, AX.sub, vL, AX.ev] at hv ⊢
        generalize look l t = Y at *
        cases Y with
        | elem cs => exact hv
        | list sz len cs ex => simp [aLoad] at hv
        | _ => simp [isList] at hof
    | bytesStr x =>
      cases x with
      | c w => simp [ofList] at hof
      | t t =>
        simp only [ofList] at hof
        simp only [LOp.sub, AX.sub, vL, AX.ev] at hv ⊢
        generalize look l t = Y at *
        cases Y with
        | elem cs => simp [aBytesStr] at hv
        | list sz len cs ex => exact hv
        | _ => simp [isList] at hof
    | mapLen x => simp [ofList] at hof
    | lookup ok z x w => simp [ofList] at hof
  obtain ⟨a, h1, h2⟩ := vL_ok s he hc hv'
  have hself := VL.selfsame _ _ hkn h2
  obtain ⟨H0, hist', rfl⟩ : ∃ H0 r, hist = H0 :: r := by
    cases hist with
    | nil => exact absurd rfl hne
    | cons x r => exact ⟨x, r, rfl⟩
  obtain ⟨M0, histA', rfl⟩ : ∃ M0 r, histA = M0 :: r := by
    cases histA with
    | nil => have := hh.1; simp at this
    | cons x r => exact ⟨x, r, rfl⟩
  obtain ⟨ι0, g0⟩ := hh.2 0 H0 M0 (by simp) (by simp)
  have out : ∀ b, ¬ own ι0 b → ∀ Y : Heap, (Y.hide baseA nk).get b = Y.get b := fun b hb Y => by
    simp only [Heap.hide]
    rw [if_neg]
    rintro ⟨q1, q2⟩
    refine hb ⟨base + (b - baseA), ?_, g0.warm rfl _ (by omega)⟩
    rw [g0.new _ (by omega)]
    congr 1
    omega
  have mem : ∀ Mk, Mk ∈ M0 :: histA' → ∃ k Hk ιk, HistK base baseA nk k ι M l lA bt Hk Mk ιk := fun Mk hMk => by
    obtain ⟨k, hk⟩ := List.mem_iff_getElem?.1 hMk
    have hlt : k < (H0 :: hist').length := by rw [hh.1]; exact (List.getElem?_eq_some_iff.1 hk).1
    obtain ⟨ιk, g⟩ := hh.2 k _ Mk (List.getElem?_eq_getElem hlt) hk
    exact ⟨k, _, ιk, g⟩
  cases o with
  | load ag n x =>
    cases x with
    | c w => simp [ofList] at hof
    | t t =>
      simp only [ofList] at hof
      simp only [bornL, bornX] at hb0
      have e0 := g0.env t (by omega)
      have ek : ∀ k Hk Mk ιk, HistK base baseA nk k ι M l lA bt Hk Mk ιk → VL Mk (own ιk) ιk (look l t) (look lA t) := fun k Hk Mk ιk g => g.env t (by omega)
      simp only [LOp.sub, AX.sub, vL, aL, AX.ev] at hv' h1 ⊢
      generalize look l t = Y at *
      cases Y with
      | elem cs =>
        simp only [VL] at e0
        obtain ⟨b, o, c, ro, sl, e1, q1, q2, q3, q4⟩ := e0
        rw [e1] at h1 ⊢
        refine ⟨a, (aLoad_get (out b q2 M)).trans h1, h2, fun Mk hMk => ?_⟩
        obtain ⟨k, Hk, ιk, g⟩ := mem Mk hMk
        have r := ek k Hk Mk ιk g
        simp only [VL] at r
        obtain ⟨b', o', c', ro', sl', e2, p1, p2, p3, p4⟩ := r
        rw [e1] at e2
        cases e2
        refine ⟨a, ?_, hself⟩
        have e3 := (g.keep.get _ p3 p2).1
        exact (aLoad_get ((out _ q2 Mk).trans e3.symm)).trans h1
      | list sz len cs ex => simp [aLoad] at hv'
      | _ => simp [isList] at hof
  | bytesStr x =>
    cases x with
    | c w => simp [ofList] at hof
    | t t =>
      simp only [ofList] at hof
      simp only [bornL, bornX] at hb0
      have e0 := g0.env t (by omega)
      have ek : ∀ k Hk Mk ιk, HistK base baseA nk k ι M l lA bt Hk Mk ιk → VL Mk (own ιk) ιk (look l t) (look lA t) := fun k Hk Mk ιk g => g.env t (by omega)
      simp only [LOp.sub, AX.sub, vL, aL, AX.ev] at hv' h1 ⊢
      generalize look l t = Y at *
      cases Y with
      | elem cs => simp [aBytesStr] at hv'
      | list sz len cs ex =>
        simp only [VL] at e0
        rcases e0 with ⟨_, _, s', e1⟩ | ⟨b, o, cap, ex', e1, q1, q2, q3, q4⟩
        · rw [e1] at h1 ⊢
          exact ⟨a, h1, h2, fun Mk _ => ⟨a, h1, hself⟩⟩
        rw [e1] at h1 ⊢
        by_cases hl : len = 0
        · subst hl
          have free : ∀ Z : Heap, aBytesStr (.slice (some (b, o)) sz 0 cap ex') Z = aBytesStr (.slice (some (b, o)) sz 0 cap ex') M := fun Z => by
            unfold aBytesStr
            split <;> first | rfl | skip
            rename_i e
            cases e
            simp
          exact ⟨a, (free _).trans h1, h2, fun Mk _ => ⟨a, (free _).trans h1, hself⟩⟩
        · obtain ⟨c, ro, sl, f1, f2, f3, f4, f5⟩ := q4 hl
          refine ⟨a, (aBytesStr_get (out b f2 M)).trans h1, h2, fun Mk hMk => ?_⟩
          obtain ⟨k, Hk, ιk, g⟩ := mem Mk hMk
          have r := ek k Hk Mk ιk g
          simp only [VL] at r
          rcases r with ⟨_, _, s', e2⟩ | ⟨b', o', cap', ex2, e2, r1, r2, r3, r4⟩
          · rw [e1] at e2; cases e2
          rw [e1] at e2
          cases e2
          obtain ⟨c', ro', sl', p1, p2, p3, p4, p5⟩ := r4 hl
          refine ⟨a, ?_, hself⟩
          have e3 := (g.keep.get _ p3 p2).1
          exact (aBytesStr_get ((out _ f2 Mk).trans e3.symm)).trans h1
      | _ => simp [isList] at hof
  | mapLen x => simp [ofList] at hof
  | lookup ok z x w => simp [ofList] at hof

theorem vdops_ok {c : VCalls} {C : ACalls} (hC : VSim c C) {fr : Fr} {n base baseA nk : Nat} (hbm : fr.mark ≤ base) : ∀ (ops : List DOper) (l lA : Fast) (H M : Heap) (hist histA : List Heap) (bt : List (Nat × Nat)) (ι : VI) (r : Fast × Heap),
    VS ι H M → base ≤ H.next → EnvR ι M l lA → (∀ i, i < nk → ι (base + i) = some (baseA + i)) → (hist = [] → ∀ i, i < nk → ι.gone (base + i) = false) → HistR base baseA nk ι M l lA bt hist histA → (ops.all fun d => d.o.op.okc) = true →
    vdops c fr n base nk ops l H hist bt = some r → ∃ lA' M' ι', bdops C n baseA nk ops lA M histA = some (lA', M') ∧ Res fr base ι H M ι' r.2 M' ∧ EnvR ι' M' r.1 lA'
  | [], l, lA, H, M, hist, histA, bt, ι, r, s, hb, he, hB, hN, hh, hc, h => by
    obtain rfl := Option.some.inj h
    exact ⟨lA, M, ι, rfl, (Res.refl s).weak hb, he⟩
  | d :: rest, l, lA, H, M, hist, histA, bt, ι, r, s, hb, he, hB, hN, hh, hc, h => by
    simp only [List.all_cons, Bool.and_eq_true] at hc
    have hm : fr.mark ≤ H.next := Nat.le_trans hbm hb
    simp only [vdops] at h
    simp only [bdops]
    split at h
    · rename_i hw
      rw [bwanted_rel he hw]
      simp only
      split at h
      · rename_i o ho
        have hco : o.okc = true := by have := hc.1; rw [ho] at this; exact this
        simp only [ho]
        split at h
        case h_2 => cases h
        rename_i v hv
        obtain ⟨a, h1, h2⟩ := vP_ok he hco hv
        simp only [h1, force_eq]
        refine vdops_ok hC hbm rest _ _ _ _ _ _ _ _ r s hb (he.put n d.o.dst h2) hB hN (hh.put n d.o.dst _ fun k Hk Mk ιk e1 e2 g hbk => ?_) hc.2 h
        have hk := (List.getElem?_eq_some_iff.1 e1).1
        have hsub := bornP_sub (ρ := look l) hk hbk
        obtain ⟨a', h3, h4⟩ := vP_ok (cutR_rel g) hco (by rw [hsub]; exact hv)
        rw [h1] at h3
        obtain rfl := Option.some.inj h3
        exact h4
      · rename_i o ho
        have hco : o.okc = true := by have := hc.1; rw [ho] at this; exact this
        simp only [ho]
        split at h
        case h_2 => cases h
        rename_i v hv
        split at h
        case isFalse => cases h
        rename_i hok
        rw [Bool.and_eq_true] at hok
        by_cases hcase : (hist.isEmpty || thawed H base nk) = true
        case neg =>
          have hlst := ((Bool.or_eq_true _ _).mp hok.1).resolve_left hcase
          simp only [Bool.and_eq_true, beq_iff_eq] at hlst
          have hne : hist ≠ [] := fun e => hcase (by simp [e])
          obtain ⟨a, h1, h2, h3⟩ := load_list s he hh hne hco hlst.1.1 hlst.1.2 hv hlst.2
          simp only [h1]
          rw [if_pos]
          · simp only [force_eq]
            exact vdops_ok hC hbm rest _ _ _ _ _ _ _ _ r s hb (he.put n d.o.dst h2) hB hN (hh.put_now n d.o.dst v a) hc.2 h
          · rw [List.all_eq_true]
            intro Mk hMk
            obtain ⟨u, g1, g2⟩ := h3 Mk (List.mem_of_mem_drop hMk)
            rw [g1]
            exact g2
        have hG : ∀ i, i < nk → ι.gone (base + i) = false := by
          rcases (Bool.or_eq_true _ _).mp hcase with h0 | h0
          · exact hN (List.isEmpty_iff.1 h0)
          · exact thawed_ok s h0
        replace hok := hok.2
        obtain ⟨s1, k1⟩ := s.hide hB hG
        have he1 : ∀ t, VL (M.hide baseA nk) (own ι) ι (look l t) (look lA t) := fun t => VL.mono k1 _ _ _ _ (.refl _ _) (he t)
        obtain ⟨a, h1, h2⟩ := vL_ok s1 he1 hco hv
        simp only [h1]
        rw [if_pos]
        · simp only [force_eq]
          have h2' : VL M (own ι) ι v a := by
            exact VL.mono (M := M.hide baseA nk) (M' := M) ⟨Nat.le_refl _, fun b hb' ho' => ⟨(k1.get b hb' ho').1.symm, ho'⟩⟩ _ _ _ _ (.refl _ _) h2
          exact vdops_ok hC hbm rest _ _ _ _ _ _ _ _ r s hb (he.put n d.o.dst h2') hB hN (hh.put_now n d.o.dst v a) hc.2 h
        · rw [List.all_eq_true]
          intro Mk hMk
          obtain ⟨i, hi⟩ := List.mem_iff_getElem?.1 hMk
          rw [List.getElem?_drop] at hi
          have hlt : d.lo + i < hist.length := by rw [hh.1]; exact (List.getElem?_eq_some_iff.1 hi).1
          obtain ⟨ιk, g⟩ := hh.2 (d.lo + i) _ Mk (List.getElem?_eq_getElem hlt) hi
          have hin : hist[d.lo + i] ∈ hist.drop d.lo := by
            refine List.mem_iff_getElem?.2 ⟨i, ?_⟩
            rw [List.getElem?_drop]
            exact List.getElem?_eq_getElem hlt
          have hok' : loadOk base nk l bt d.lo o v (hist.drop d.lo) = true := by
            rw [Bool.or_eq_true] at hok
            rcases hok with hok | hok
            · rw [List.isEmpty_iff] at hok
              rw [hok] at hin
              cases hin
            · exact hok
          obtain ⟨u, g1, g2⟩ := load_ahead s he hB hG g hco (by omega) hv h1 h2 hin hok'
          rw [g1]
          exact g2
      · rename_i o ho
        have hco : o.okc = true := by have := hc.1; rw [ho] at this; exact this
        simp only [ho]
        split at h
        case h_2 => cases h
        rename_i p hp
        split at h
        case isFalse => cases h
        rename_i hix
        obtain ⟨y, h1, h2, h3⟩ := vK_ok s he hco (x := p.1) (mk := p.2) hp
        simp only [h1]
        have hbb := hB d.ix hix.1
        have hww : ι.gone (base + d.ix) = false := by
          rcases (Bool.or_eq_true _ _).mp hix.2 with h0 | h0
          · exact hN (List.isEmpty_iff.1 h0) _ hix.1
          · exact thawed_ok s h0 0 (by omega)
        obtain ⟨p1, p2⟩ := s.put hbb hww (x := some p.1) (y := some y) (fun x' hx' => by obtain rfl := Option.some.inj hx'; exact h2)
        have p3 : Res fr base ι H M ι (H.put (base + d.ix) (some p.1)) (M.put (baseA + d.ix) (some y)) := ⟨p1, p2.weak hb, Guar.of_get fun i hi => .inl (by simp [Heap.put, show i ≠ base + d.ix by omega]), hb⟩
        have hval : VL (M.put (baseA + d.ix) (some y)) (own ι) ι (p.2.val (base + d.ix)) (p.2.val (baseA + d.ix)) := by
          cases hmk : p.2 with
          | ptr => simp only [Mk.val, VL]; exact ⟨_, hbb, rfl⟩
          | slice sz len cap ex => simp only [Mk.val, VL]; exact ⟨_, hbb, rfl⟩
          | map => exact absurd hmk h3
        obtain ⟨lA', M', ι', g1, g2, g3⟩ := vdops_ok hC hbm rest _ _ _ _ _ _ _ _ r p1 hb ((he.step s p2).put n d.o.dst hval) hB hN ((hh.step (fun _ => .refl _ _) (fun _ h => h) p2.keep).put_now n d.o.dst _ _) hc.2 h
        exact ⟨lA', M', ι', g1, p3.trans g2 (Nat.le_refl _), g3⟩
      · rename_i o ho
        have hco : o.okc = true := by have := hc.1; rw [ho] at this; exact this
        simp only [ho]
        split at h
        case h_2 => cases h
        rename_i p hp
        obtain ⟨a, M1, ι1, h1, h2, h3⟩ := vN_ok hC s hm he hco hp
        simp only [h1, force_eq]
        have hle := h2.stp.le s
        have hgo : ∀ i, ι.gone i = true → ι1.gone i = true := fun i hi => by
          refine h2.stp.gone i ?_ hi
          obtain ⟨c', sl', e⟩ := s.ice i hi
          rcases Nat.lt_or_ge i H.next with hlt | hge
          · exact hlt
          · rw [s.okH i hge] at e
            cases e
        have hh1 := (hh.push s he hB hN).step hle hgo h2.stp.keep
        have hh2 := hh1.put_now n d.o.dst p.1 a
        rw [List.length_append, List.length_singleton] at hh2
        obtain ⟨lA', M', ι', g1, g2, g3⟩ := vdops_ok hC hbm rest _ _ _ _ _ _ _ _ r h2.vs (Nat.le_trans hb h2.next) ((he.step s h2.stp).put n d.o.dst h3) (fun i hi => (hle [base + i] (base + i) (by simp)).1 _ (hB i hi)) (fun h => by simp at h) hh2 hc.2 h
        exact ⟨lA', M', ι', g1, (h2.weak hb).trans g2 (Nat.le_refl _), g3⟩
    · rename_i hw
      rw [bwanted_rel he hw]
      simp only
      cases ho : d.o.op with
      | n o =>
        simp only [ho] at h
        have hh2 := (hh.push s he hB hN).put_now n d.o.dst (.tuple []) (.tuple [])
        rw [List.length_append, List.length_singleton] at hh2
        exact vdops_ok hC hbm rest _ _ _ _ _ _ _ _ r s hb (he.put n d.o.dst VL.unit) hB (fun h => by simp at h) hh2 hc.2 h
      | p o =>
        simp only [ho] at h
        exact vdops_ok hC hbm rest _ _ _ _ _ _ _ _ r s hb (he.put n d.o.dst VL.unit) hB hN (hh.put_now n d.o.dst _ _) hc.2 h
      | l o =>
        simp only [ho] at h
        exact vdops_ok hC hbm rest _ _ _ _ _ _ _ _ r s hb (he.put n d.o.dst VL.unit) hB hN (hh.put_now n d.o.dst _ _) hc.2 h
      | k o =>
        simp only [ho] at h
        exact vdops_ok hC hbm rest _ _ _ _ _ _ _ _ r s hb (he.put n d.o.dst VL.unit) hB hN (hh.put_now n d.o.dst _ _) hc.2 h
    · cases h

def VI.room (ι : VI) (a b nk : Nat) : VI := ⟨fun i => if a ≤ i ∧ i < a + nk then some (b + (i - a)) else ι i, fun i => if a ≤ i ∧ i < a + nk then false else ι.sol i, fun i => if a ≤ i ∧ i < a + nk then false else ι.gone i⟩

/-- Room for the blocks that a region makes. -/
theorem VS.room {ι : VI} {H M : Heap} (s : VS ι H M) (nk : Nat) :
    VS (ι.room H.next M.next nk) { H with next := H.next + nk } { M with next := M.next + nk } ∧ Stp H.next ι M (ι.room H.next M.next nk) { M with next := M.next + nk } ∧ (∀ i, i < nk → (ι.room H.next M.next nk) (H.next + i) = some (M.next + i)) ∧ ∀ i, i < nk → (ι.room H.next M.next nk).gone (H.next + i) = false := by
  have hle : ∀ i j, ι i = some j → (ι.room H.next M.next nk) i = some j := fun i j h => by
    have := (s.lt i j h).1
    simp only [VI.room]
    rw [if_neg (by omega)]
    exact h
  have hls : ∀ S, VI.Le ι (ι.room H.next M.next nk) S := fun S i _ => ⟨hle i, fun h => by
    have := (s.solt i h).1
    simp only [VI.room]
    rw [if_neg (by omega)]
    exact h⟩
  have hk : Keeps M (own ι) { M with next := M.next + nk } (own (ι.room H.next M.next nk)) := ⟨Nat.le_add_right _ _, fun b hb ho => ⟨rfl, fun ⟨i, hi, hg⟩ => by
    simp only [VI.room] at hi hg
    split at hi
    · obtain rfl := Option.some.inj hi; omega
    · rename_i hne
      rw [if_neg hne] at hg
      exact ho ⟨i, hi, hg⟩⟩⟩
  refine ⟨⟨fun i j h => ?_, fun i i' j h h' => ?_, fun i x hx => ?_, fun i hi => ?_, fun i hi => ?_, fun i hi => s.okH i (by have : H.next + nk ≤ i := hi; omega), fun i hi => s.okM i (by have : M.next + nk ≤ i := hi; omega)⟩, ⟨hk, fun i hi => ?_, fun i hi hg => ?_⟩, fun i hi => ?_, fun i hi => ?_⟩
  · simp only [VI.room] at h
    split at h
    · obtain rfl := Option.some.inj h
      simp only
      omega
    · have := s.lt i j h
      simp only
      omega
  · simp only [VI.room] at h h'
    split at h <;> split at h'
    · have e1 := Option.some.inj h
      have e2 := Option.some.inj h'
      omega
    · obtain rfl := Option.some.inj h
      have := (s.lt _ _ h').2
      omega
    · obtain rfl := Option.some.inj h'
      have := (s.lt _ _ h).2
      omega
    · exact s.inj _ _ _ h h'
  · have hlt : i < H.next := by
      rcases Nat.lt_or_ge i H.next with hlt | hge
      · exact hlt
      · rw [show H.get i = none from s.okH i hge] at hx
        cases hx
    rcases s.blk i x hx with ⟨h1, h2⟩ | ⟨j, h1, h2, h3⟩
    · exact .inl ⟨(hls [i] i (by simp)).2 h1, h2⟩
    · exact .inr ⟨j, hle i j h1, h2.mono hk hls, fun h => by simp only [VI.room]; rw [if_neg (by omega)]; exact h3 h⟩
  · simp only [VI.room] at hi ⊢
    split at hi
    · cases hi
    · rename_i e
      have := s.solt i hi
      rw [if_neg e]
      exact ⟨by show i < H.next + nk; omega, this.2⟩
  · simp only [VI.room] at hi
    split at hi
    · cases hi
    · exact s.ice i hi
  · simp only [VI.room]
    rw [if_neg (by omega), if_neg (by omega)]
    exact ⟨rfl, rfl⟩
  · simp only [VI.room]
    rw [if_neg (by omega)]
    exact hg
  · simp only [VI.room]
    rw [if_pos (by omega)]
    congr 1
    omega
  · simp only [VI.room]
    rw [if_pos (by omega)]

theorem vdreg_ok {c : VCalls} {C : ACalls} (hC : VSim c C) {fr : Fr} {n nk : Nat} {ops : List DOper} {l lA : Fast} {H M : Heap} {ι : VI} {r : Fast × Heap} (s : VS ι H M) (hm : fr.mark ≤ H.next) (he : EnvR ι M l lA) (hc : (ops.all fun d => d.o.op.okc) = true)
    (h : vdops c fr n H.next nk ops l { H with next := H.next + nk } [] [] = some r) : ∃ lA' M' ι', bdops C n M.next nk ops lA { M with next := M.next + nk } [] = some (lA', M') ∧ Res fr H.next ι H M ι' r.2 M' ∧ EnvR ι' M' r.1 lA' := by
  obtain ⟨s1, k1, hB, hN⟩ := s.room nk
  obtain ⟨lA', M', ι', g1, g2, g3⟩ := vdops_ok hC hm ops l lA _ _ [] [] [] _ r s1 (Nat.le_add_right _ _) (he.step s k1) hB (fun _ => hN) ⟨rfl, fun k Hk Mk h1 _ => by simp at h1⟩ hc h
  exact ⟨lA', M', ι', g1, ⟨g2.vs, k1.trans g2.stp (Nat.le_refl _), g2.guar, g2.next⟩, g3⟩

end Go.Proofs.Ytachollgbplikaa
