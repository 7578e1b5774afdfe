/- The machine, part 5. -/
import Derived.Test.YtlcjmchhnbdepaaJ4
import Derived.Test.YtlcjmchhnbdepaaJ2
import Derived.Test.YtlcjmchhnbdepaaJ3
section
/- W, fourteenth part: code, functions, loops. -/
set_option linter.all false
set_option linter.unusedSimpArgs false
namespace Go.Proofs.Ytlcjmchhnbdepaa

theorem hasN_cons2 {a b : Nat} {l : List Nat} : hasN (a :: l) b = false ↔ a ≠ b ∧ hasN l b = false := by
  simp only [hasN]
  cases h : Nat.beq a b with
  | true => simp [Nat.eq_of_beq_eq_true h]
  | false =>
    have : a ≠ b := fun e => by subst e; simp at h
    simp [this]

theorem wdops_ok {C : ACalls} {B : FuncId → Option Bt} (hB : ∀ f b, B f = some b → BOk C f b) {R : Nat → Prop} {n base baseA nk : Nat} {ι0 : VI} {M0 : Heap} : ∀ (ops : List DOper) (l lA : Fast) (H : WH) (M : Heap) (ι : VI) (tr : TS) (hs : List (List Nat × WH)) (bt : List (Nat × Nat)) (al : List Nat) (histA : List Heap) (k : Fast → WH → TS → Prop),
    DI R base baseA nk ι0 M0 ι H M l lA bt al hs histA → (ops.all fun d => d.o.op.okc) = true → wdops C B n base nk ops l H tr hs bt al k →
    ∃ lA' M' ι' l' H' tr' t, bdops C n baseA nk ops lA M histA = some (lA', M') ∧ VS R ι' H' M' ∧ Stp base t ι H M ι' H' M' ∧ EnvR R ι' M' l' lA' ∧ k l' H' tr'
  | [], l, lA, H, M, ι, tr, hs, bt, al, histA, k, g, hc, h => ⟨lA, M, ι, l, H, tr, [], rfl, g.vs, .refl _ _ _ _ _ (by have := g.len; omega), g.env, h⟩
  | d :: r, l, lA, H, M, ι, tr, hs, bt, al, histA, k, g, hc, h => by
    simp only [List.all_cons, Bool.and_eq_true] at hc
    simp only [wdops] at h
    obtain ⟨l00, tr00, hl00, h⟩ := wStep_ok h
    have g := g.like hl00
    obtain ⟨l0, tr1, hl, h⟩ := wGd_ok h
    have g1 := g.like hl
    have hbl : base ≤ H.length := by have := g.len; omega
    rcases h with ⟨hw, h⟩ | ⟨hw, h⟩
    · obtain ⟨l1, tr10, hl1, h⟩ := wStep_ok h
      have g1 := g1.like hl1
      have he1 := g1.env
      simp only [bdops, bwanted_rel g.env hw]
      cases ho : d.o.op with
      | p op =>
        rw [ho] at h hc
        simp only at h
        obtain ⟨v, u, tr2, h1, h2, h3⟩ := ovr_ok (R := R) h
        obtain ⟨a, h4, h5⟩ := wP_ok he1 hc.1 h1
        have cut : ∀ (X : Heap) (O : Nat → Prop) (κ : VI) (q : Nat), q < hs.length + 1 → (∀ t, bornOf bt t ≤ q → VL X O κ (look l1 t) (look lA t)) → bornP bt (hs.length + 1) op ≤ q → VL X O κ u a := fun X O κ q hq he hb => by
          have hce : ∀ t, VL X O κ (cutR bt q (look l1) t) (look lA t) := fun t => by
            unfold cutR
            split
            · rename_i hb; exact he t hb
            · simp [VL]
          obtain ⟨a', e1, e2⟩ := wP_ok hce hc.1 (by rw [bornP_sub hq hb]; exact h1)
          rw [h4] at e1
          obtain rfl := Option.some.inj e1
          exact h3 _ _ _ _ e2
        obtain ⟨lA', M', ι', l', H', tr', t, q1, q2⟩ := wdops_ok hB r _ _ H M ι tr2 hs _ al histA k (g1.put n d.o.dst (bornP bt (hs.length + 1) op) (h3 _ _ _ _ h5) (fun hb => cut M0 _ ι0 0 (by omega) (fun t ht => g1.start t (by omega)) (by omega)) (fun q Mk ιk hq w hb => cut Mk _ ιk (q + 1) (by omega) w.env hb)) hc.2 h2
        refine ⟨lA', M', ι', l', H', tr', t, ?_, q2⟩
        simp only [h4, force_eq]
        exact q1
      | l op =>
        rw [ho] at h hc
        simp only at h
        obtain ⟨v, u, tr2, h1, h2, h3⟩ := ovr_ok (R := R) h
        have h2 : ∃ tr2 b, (∃ a, aL (op.sub (look lA)) [] (M.hide baseA nk) = some a ∧ DI R base baseA nk ι0 M0 ι H M (bput n d.o.dst u l1) (bput n d.o.dst a lA) (bornPut n d.o.dst b bt) al hs histA ∧ ∀ k Mk, d.lo ≤ k → histA[k]? = some Mk → ∃ w, aL (op.sub (look lA)) [] (Mk.hide baseA nk) = some w ∧ AV.same w a = true) ∧ wdops C B n base nk r (bput n d.o.dst u l1) H tr2 hs (bornPut n d.o.dst b bt) al k := by
          split at h2
          · rename_i hok
            obtain ⟨a, p1, p2, p3⟩ := load_ok g1 hc.1 h1 h3 hok
            split at h2
            · split at h2
              case h_2 => exact h2.elim
              rename_i hb hbt
              obtain ⟨tr3, m1, m2⟩ := laterGo_ok h2
              exact ⟨tr3, d.lo + 1, ⟨a, p1, g1.put2 n d.o.dst (d.lo + 1) p2 (fun e => by omega) (load_early g1 hc.1 h1 h3 hok hb hbt p1 m1), p3⟩, m2⟩
            · exact ⟨_, hs.length + 1, ⟨a, p1, g1.now n d.o.dst p2, p3⟩, h2⟩
          · split at h2
            case h_2 => exact h2.elim
            rename_i hok
            obtain ⟨tr3, p1, p2⟩ := laterGo_ok h2
            obtain ⟨a, m1, m2, m3⟩ := load_later g1 hc.1 h1 h3 hok p1
            exact ⟨tr3, hs.length + 1, ⟨a, m1, g1.now n d.o.dst m2, m3⟩, p2⟩
        obtain ⟨tr2, bb, ⟨a, q1, q2, q3⟩, h2⟩ := h2
        obtain ⟨lA', M', ι', l', H', tr', t, q4, q5⟩ := wdops_ok hB r _ _ H M ι tr2 hs _ al histA k q2 hc.2 h2
        refine ⟨lA', M', ι', l', H', tr', t, ?_, q5⟩
        simp only [q1]
        rw [if_pos]
        · simp only [force_eq]
          exact q4
        · rw [List.all_eq_true]
          intro Mk hMk
          obtain ⟨i, hi⟩ := List.mem_iff_getElem?.1 hMk
          rw [List.getElem?_drop] at hi
          obtain ⟨w, w1, w2⟩ := q3 (d.lo + i) Mk (by omega) hi
          rw [w1]
          exact w2
      | k op =>
        rw [ho] at h hc
        simp only at h
        split at h
        case h_2 => exact h.elim
        rename_i hix hal
        have hix : d.ix < nk := by simpa [Nat.blt_eq] using hix
        obtain ⟨c, sl, mk, c', sl', mkA, tr2, h1, h2, h3, hss, h4⟩ := wK_ok g1.vs he1 hc.1 h
        obtain ⟨f1, f2, f3⟩ := g1.free d.ix hix hal
        have hnew := g1.new d.ix hix
        obtain ⟨s1, k1, k2, k3⟩ := g1.vs.fill hnew f1 f2 f3 (BL.of (sl' := sl') h3 hss)
        have hne : ∀ i, i < base → i ≠ base + d.ix := fun i hi => by omega
        have gp : ∀ i, i ≠ base + d.ix → wget (wput H (base + d.ix) (some (.cells c false sl))) i = wget H i := fun i hi => by
          rw [wget_put, if_neg (fun e => hi e.1)]
        have ac : ∀ i, i ≠ base + d.ix → act (ι.fill (base + d.ix) (c.length, c'.length)) (wput H (base + d.ix) (some (.cells c false sl))) i → act ι H i := fun i hi ha => ha.imp (fun ⟨x, hx⟩ => ⟨x, by rw [gp i hi] at hx; exact hx⟩) id
        have stp : Stp base [] ι H M (ι.fill (base + d.ix) (c.length, c'.length)) (wput H (base + d.ix) (some (.cells c false sl))) (M.put (baseA + d.ix) (some (.cells c' false sl'))) :=
          ⟨k1, k2 _, fun _ _ h => h, fun _ _ => rfl, fun i hi => by simp only [VI.fill, setAt_ne _ _ (hne i hi)], fun _ _ _ => rfl, fun i hi ⟨x, hx⟩ => ⟨x, by rw [gp i (hne i hi)] at hx; exact hx⟩, fun i j hi ha hj _ => k3 i j (hne i hi) (ac i (hne i hi) ha) hj, by rw [wput_len]; exact hbl⟩
        have hval := h4 (M.put (baseA + d.ix) (some (.cells c' false sl'))) (OR R (ι.fill (base + d.ix) (c.length, c'.length))) (ι.fill (base + d.ix) (c.length, c'.length)) (base + d.ix) (baseA + d.ix) hnew (by simp [VI.fill, setAt])
        have g2 : DI R base baseA nk ι0 M0 (ι.fill (base + d.ix) (c.length, c'.length)) (wput H (base + d.ix) (some (.cells c false sl))) (M.put (baseA + d.ix) (some (.cells c' false sl'))) l1 lA bt (d.ix :: al) hs histA :=
          ⟨s1, by rw [wput_len]; exact g1.len, fun t => VL.mono (k1.or R) _ _ _ _ (k2 _) (he1 t), g1.new, fun i hi ha => by
            obtain ⟨a1, a2⟩ := hasN_cons2.1 ha
            obtain ⟨b1, b2, b3⟩ := g1.free i hi a2
            have hn : base + i ≠ base + d.ix := by omega
            exact ⟨b1, by simp only [VI.fill, setAt_ne _ _ hn]; exact b2, by rw [gp _ hn]; exact b3⟩, g1.start, g1.low, g1.le0.trans (k2 _), g1.to0, g1.m0, g1.hlen, fun q Mk hq => by
            obtain ⟨ιk, w, w2⟩ := g1.hist q Mk hq
            exact ⟨ιk, ⟨w.keep.trans k1, w.env, w.new, w.gone, fun i j hi ha hj ht => by
              have ha' := ac i (hne i hi) ha
              exact (k3 i j (hne i hi) ha' (by rw [g1.to0 i hi]; exact hj)).trans (w.same i j hi ha' hj ht)⟩, w2⟩⟩
        obtain ⟨lA', M', ι', l', H', tr', t, q1, q2, q3, q4⟩ := wdops_ok hB r _ _ _ _ _ tr2 hs _ (d.ix :: al) histA k (g2.now n d.o.dst hval) hc.2 h1
        refine ⟨lA', M', ι', l', H', tr', t, ?_, q2, ?_, q4⟩
        · simp only [h2]
          exact q1
        · have := stp.trans q3 (Nat.le_refl _)
          simpa using this
      | n op =>
        rw [ho] at h hc
        simp only at h
        obtain ⟨a, M1, ι1, v, H1, t1, tr2, h1, h2, h3, h4, h5⟩ := wN_ok hB g1.vs he1 hc.1 h
        have g2 := (g1.loud h2 h3).now n d.o.dst h4
        rw [List.length_append, List.length_singleton] at g2
        obtain ⟨lA', M', ι', l', H', tr', t, q1, q2, q3, q4⟩ := wdops_ok hB r _ _ _ _ _ tr2 _ _ al _ k g2 hc.2 h5
        refine ⟨lA', M', ι', l', H', tr', t1 ++ t, ?_, q2, (h3.weak hbl).trans q3 (Nat.le_refl _), q4⟩
        simp only [h1, force_eq]
        exact q1
    · simp only [bdops, bwanted_rel g.env hw]
      cases ho : d.o.op with
      | n op =>
        rw [ho] at h
        simp only at h
        have g2 := (g1.loud (t := []) g1.vs (.refl _ _ _ _ _ (Nat.le_refl _))).now n d.o.dst (v := .tuple []) (a := .tuple []) VL.unit
        rw [List.length_append, List.length_singleton] at g2
        exact wdops_ok hB r _ _ H M ι tr1 _ _ al _ k g2 hc.2 h
      | p op => rw [ho] at h; exact wdops_ok hB r _ _ H M ι tr1 _ _ al _ k (g1.now n d.o.dst VL.unit) hc.2 h
      | l op => rw [ho] at h; exact wdops_ok hB r _ _ H M ι tr1 _ _ al _ k (g1.now n d.o.dst VL.unit) hc.2 h
      | k op => rw [ho] at h; exact wdops_ok hB r _ _ H M ι tr1 _ _ al _ k (g1.now n d.o.dst VL.unit) hc.2 h

theorem wdreg_ok {C : ACalls} {B : FuncId → Option Bt} (hB : ∀ f b, B f = some b → BOk C f b) {R : Nat → Prop} {n nk : Nat} {ops : List DOper} {l lA : Fast} {H : WH} {M : Heap} {ι : VI} {tr : TS} {k : Fast → WH → TS → Prop} (s : VS R ι H M) (he : EnvR R ι M l lA) (hc : (ops.all fun d => d.o.op.okc) = true)
    (h : wdops C B n H.length nk ops l (H ++ holes nk) tr [] [] [] k) : ∃ lA' M' ι' l' H' tr' t, bdops C n M.next nk ops lA { M with next := M.next + nk } [] = some (lA', M') ∧ VS R ι' H' M' ∧ Stp H.length t ι H M ι' H' M' ∧ EnvR R ι' M' l' lA' ∧ k l' H' tr' := by
  obtain ⟨s1, k1⟩ := s.room nk
  have inr : ∀ i, i < nk → H.length ≤ H.length + i ∧ H.length + i < H.length + nk := fun i hi => by omega
  have g : DI R H.length M.next nk ι M (ι.room H.length M.next nk) (H ++ holes nk) { M with next := M.next + nk } l lA [] [] [] [] :=
    ⟨s1, by simp [holes_len], he.step s k1, fun i hi => by simp only [VI.room, if_pos (inr i hi)]; congr 1; omega, fun i hi _ => ⟨by simp only [VI.room, if_pos (inr i hi)], by simp only [VI.room, if_pos (inr i hi)], by rw [wget_app, if_neg (by omega), holes_get]⟩,
      fun t _ => he t, fun i j h => s.lt i j h, k1.le, k1.toq, rfl, rfl, fun k Mk h => by simp at h⟩
  obtain ⟨lA', M', ι', l', H', tr', t, q1, q2, q3, q4⟩ := wdops_ok hB ops l lA _ _ _ tr [] [] [] [] k g hc h
  refine ⟨lA', M', ι', l', H', tr', [] ++ t, q1, q2, k1.trans q3 (Nat.le_refl _), q4⟩

theorem zip_rel {M : Heap} {O : Nat → Prop} {κ : VI} {lA : Fast} : ∀ (keep : List Nat) (vs : List AV), VLL M O κ vs (keep.map (look lA)) → ∀ t, VL M O κ (look (zipKeep keep vs) t) (look lA t) ∧ VL M O κ (look (zipKeep keep vs) t) (look (bkeep lA keep) t)
  | [], vs, h, t => by
    cases vs with
    | nil => simp [zipKeep, look, VL]
    | cons _ _ => simp [VLL] at h
  | u :: keep, vs, h, t => by
    cases vs with
    | nil => simp [VLL] at h
    | cons v vs =>
      simp only [List.map_cons, VLL] at h
      have ih := zip_rel keep vs h.2 t
      simp only [zipKeep, bkeep, look_cons2]
      split
      · rename_i e
        subst e
        exact ⟨h.1, h.1⟩
      · exact ih

theorem EnvR.map {R : Nat → Prop} {ι : VI} {M : Heap} {l lA : Fast} (he : EnvR R ι M l lA) : ∀ keep : List Nat, VLL M (OR R ι) ι (keep.map (look l)) (keep.map (look lA))
  | [] => by simp [VLL]
  | t :: r => by simp only [List.map_cons, VLL]; exact ⟨he t, EnvR.map he r⟩

/-- What a run of code is to keep. -/
def CodeR (R : Nat → Prop) (np : Nat) (ι : VI) (H : WH) (M : Heap) (x : BOut) (k : Ex → Fast → WH → TS → Prop) : Prop :=
  ∃ ex lA' M' ι' l' H' tr', x = some (ex, lA', M') ∧ VS R ι' H' M' ∧ Stp np (List.range np) ι H M ι' H' M' ∧ EnvR R ι' M' l' lA' ∧ k ex l' H' tr'

theorem range_more {n : Nat} {t : List Nat} {ι ι1 : VI} {H H1 : WH} {M M1 : Heap} (h : Stp n t ι H M ι1 H1 M1) : Stp n (List.range n) ι H M ι1 H1 M1 := h.more fun i hi _ => List.mem_range.2 hi

theorem CodeR.after {R : Nat → Prop} {np : Nat} {ι ι1 : VI} {H H1 : WH} {M M1 : Heap} {x : BOut} {k : Ex → Fast → WH → TS → Prop} {t : List Nat} (h : Stp np t ι H M ι1 H1 M1) (g : CodeR R np ι1 H1 M1 x k) : CodeR R np ι H M x k := by
  obtain ⟨ex, lA', M', ι', l', H', tr', q1, q2, q3, q4⟩ := g
  exact ⟨ex, lA', M', ι', l', H', tr', q1, q2, range_more (h.trans q3 (Nat.le_refl _)), q4⟩

theorem wput_get (H : WH) (b : Nat) : ∀ i x, wget (wput H b none) i = some x → wget H i = some x := fun i x h => by
  rw [wget_put] at h
  split at h
  · cases h
  · exact h
theorem kill_ok {R : Nat → Prop} {M : Heap} {ι : VI} : ∀ (bs : List Nat) {H : WH} (n : Nat), n ≤ H.length → VS R ι H M → VS R ι (wkill H bs) M ∧ Stp n [] ι H M ι (wkill H bs) M ∧ (wkill H bs).length = H.length
  | [], H, n, hn, s => ⟨s, .refl _ _ _ _ _ hn, rfl⟩
  | b :: r, H, n, hn, s => by
    have g := wput_get H b
    have ac : ∀ i, act ι (wput H b none) i → act ι H i := fun i h => h.imp (fun ⟨x, hx⟩ => ⟨x, g i x hx⟩) id
    have hl : (wput H b none).length = H.length := wput_len _ _ _
    have s1 : VS R ι (wput H b none) M := ⟨fun i j h => by rw [hl]; exact s.lt i j h, fun i i' j h h' => s.inj i i' j (ac i h) (ac i' h'), fun i x h => s.blk i x (g i x h), fun i h => by rw [hl]; exact s.solt i h, fun i h c sl e => s.ice i h c sl (g i _ e), s.okM, fun j h => ⟨(s.res j h).1, fun i ha => (s.res j h).2 i (ac i ha)⟩⟩
    have k1 : Stp n [] ι H M ι (wput H b none) M := ⟨⟨Nat.le_refl _, fun _ _ h => ⟨rfl, h⟩⟩, .refl _ _, fun _ _ h => h, fun _ _ => rfl, fun _ _ => rfl, fun _ _ _ => rfl, fun i _ ⟨x, hx⟩ => ⟨x, g i x hx⟩, fun _ _ _ _ _ _ => rfl, by rw [hl]; exact hn⟩
    obtain ⟨s2, k2, h2⟩ := kill_ok r (H := wput H b none) n (by rw [hl]; exact hn) s1
    refine ⟨s2, ?_, h2.trans hl⟩
    exact k1.trans k2 (Nat.le_refl _)
theorem kl_ok {R : Nat → Prop} {M : Heap} {ι : VI} {H : WH} (tr : TS) {n : Nat} (hn : n ≤ H.length) (s : VS R ι H M) : VS R ι (wkl tr H) M ∧ Stp n [] ι H M ι (wkl tr H) M ∧ (wkl tr H).length = H.length := by
  unfold wkl
  split
  · exact kill_ok _ n hn s
  · exact ⟨s, .refl _ _ _ _ _ hn, rfl⟩

set_option maxHeartbeats 2000000 in
theorem wexec_ok {C : ACalls} {B : FuncId → Option Bt} (hB : ∀ f b, B f = some b → BOk C f b) {K n np : Nat} {R : Nat → Prop} : ∀ (code : ACode) (l lA : Fast) (H : WH) (M : Heap) (ι : VI) (tr : TS) (k : Ex → Fast → WH → TS → Prop), code.okc = true → VS R ι H M → np ≤ H.length → EnvR R ι M l lA →
    wexec C B K n np code l H tr k → CodeR R np ι H M (bexec C K n code lA M) k
  | .skip, l, lA, H, M, ι, tr, k, _, s, hn, he, h => ⟨.normal, lA, M, ι, l, H, tr, rfl, s, .refl _ _ _ _ _ hn, he, h⟩
  | .reg ops, l, lA, H, M, ι, tr, k, hc, s, hn, he, h => by
    obtain ⟨lA', M', ι', l', H', tr', t, q1, q2, q3, q4, q5⟩ := wops_ok hB ops l lA H M ι tr _ s he hc h
    exact ⟨.normal, lA', M', ι', l', H', tr', by simp only [bexec, q1, Option.map_some], q2, range_more (q3.weak hn), q4, q5⟩
  | .dreg nk ops, l, lA, H, M, ι, tr, k, hc, s, hn, he, h => by
    obtain ⟨lA', M', ι', l', H', tr', t, q1, q2, q3, q4, q5⟩ := wdreg_ok hB s he hc h
    exact ⟨.normal, lA', M', ι', l', H', tr', by simp only [bexec, q1, Option.map_some], q2, range_more (q3.weak hn), q4, q5⟩
  | .seq a b, l, lA, H, M, ι, tr, k, hc, s, hn, he, h => by
    simp only [ACode.okc, Bool.and_eq_true] at hc
    simp only [wexec] at h
    obtain ⟨l0, tr, hl00, h⟩ := wStep_ok h
    have he : EnvR R ι M l0 lA := fun t => by rw [hl00 t]; exact he t
    split at h
    · split at h
      case h_2 => exact h.elim
      rename_i keep ms bs ts ex outs out r0 _
      obtain ⟨s0, k0, hl0⟩ := kl_ok tr hn s
      obtain ⟨vs, blks, ι1, hk, s1, k1, hv⟩ := wEnter_ok s0 (by rw [hl0]; exact hn) (he.map keep) h
      obtain ⟨r, hrun, hk⟩ := need_ok hk
      obtain ⟨lA', M', ι', q1, q2, q3, q4⟩ := hrun R ι1 M lA s1 (fun t => (zip_rel keep vs hv t).1)
      refine CodeR.after (range_more k0) (CodeR.after k1 (CodeR.after q3 ?_))
      simp only [bexec, q1]
      cases ex with
      | normal => exact wexec_ok hB b outs lA' out M' ι' r k hc.2 q2 q3.next q4 hk
      | exit i => exact ⟨_, lA', M', ι', outs, out, r, rfl, q2, .refl _ _ _ _ _ q3.next, q4, hk⟩
      | ret => exact ⟨_, lA', M', ι', outs, out, r, rfl, q2, .refl _ _ _ _ _ q3.next, q4, hk⟩
    · obtain ⟨ex, lA', M', ι', l', H', tr', q1, q2, q3, q4, q5⟩ := wexec_ok hB a l0 lA H M ι _ _ hc.1 s hn he h
      refine CodeR.after q3 ?_
      simp only [bexec, q1]
      cases ex with
      | normal => exact wexec_ok hB b l' lA' H' M' ι' tr' k hc.2 q2 q3.next q4 q5
      | exit i => exact ⟨_, lA', M', ι', l', H', tr', rfl, q2, .refl _ _ _ _ _ q3.next, q4, q5⟩
      | ret => exact ⟨_, lA', M', ι', l', H', tr', rfl, q2, .refl _ _ _ _ _ q3.next, q4, q5⟩
  | .cond c a b, l, lA, H, M, ι, tr, k, hc, s, hn, he, h => by
    simp only [ACode.okc, Bool.and_eq_true] at hc
    simp only [wexec] at h
    obtain ⟨l0, tr0, hl0, h⟩ := wStep_ok h
    have he : EnvR R ι M l0 lA := fun t => by rw [hl0 t]; exact he t
    obtain ⟨l', tr', hl, h⟩ := wGd_ok h
    have he' : EnvR R ι M l' lA := fun t => by rw [hl t]; exact he t
    cases c with
    | c v =>
      simp only [bwanted] at h
      have h := (h.resolve_right (fun h => by cases h.1)).2
      simp only [bexec, AX.sub, AX.ev]
      cases v with
      | bool w =>
        cases w with
        | true => exact wexec_ok hB a l' lA H M ι tr' k hc.1.2 s hn he' h
        | false => exact wexec_ok hB b l' lA H M ι tr' k hc.2 s hn he' h
      | _ => exact h.elim
    | t t =>
      simp only [bexec, AX.sub, AX.ev]
      have ht := he t
      generalize l0 = l at *
      simp only [bwanted] at h
      rcases h with ⟨h1, h2⟩ | ⟨h1, h2⟩
      · generalize look l t = X at *
        cases X <;> simp only at h1 <;> first | (cases h1; done) | skip
        rename_i w
        simp only [Option.some.injEq, beq_iff_eq] at h1
        subst h1
        rw [ht.eq rfl]
        exact wexec_ok hB a l' lA H M ι tr' k hc.1.2 s hn he' h2
      · rw [hl t] at h2
        generalize look l t = X at *
        cases X <;> simp only at h1 h2 <;> first | (cases h1; done) | exact h2.elim | skip
        rename_i w
        simp only [Option.some.injEq, beq_eq_false_iff_ne] at h1
        have : w = false := by cases w <;> simp_all
        subst this
        rw [ht.eq rfl]
        exact wexec_ok hB b l' lA H M ι tr' k hc.2 s hn he' h2
  | .block id c, l, lA, H, M, ι, tr, k, hc, s, hn, he, h => by
    simp only [ACode.okc] at hc
    simp only [wexec] at h
    obtain ⟨ex, lA', M', ι', l', H', tr', q1, q2, q3, q4, q5⟩ := wexec_ok hB c l lA H M ι tr _ hc s hn he h
    refine CodeR.after q3 ?_
    simp only [bexec, q1]
    have re := q3.next
    cases ex with
    | normal => exact ⟨_, lA', M', ι', l', H', tr', rfl, q2, .refl _ _ _ _ _ re, q4, q5⟩
    | ret => exact ⟨_, lA', M', ι', l', H', tr', rfl, q2, .refl _ _ _ _ _ re, q4, q5⟩
    | exit i =>
      cases e : Nat.beq i id with
      | true =>
        have q5 : k .normal l' H' tr' := by simpa only [e] using q5
        simp only
        rw [if_pos (Nat.eq_of_beq_eq_true e)]
        exact ⟨_, lA', M', ι', l', H', tr', rfl, q2, .refl _ _ _ _ _ re, q4, q5⟩
      | false =>
        have q5 : k (.exit i) l' H' tr' := by simpa only [e] using q5
        simp only
        rw [if_neg (fun e' => by subst e'; simp at e)]
        exact ⟨_, lA', M', ι', l', H', tr', rfl, q2, .refl _ _ _ _ _ re, q4, q5⟩
  | .loop keep c, l, lA, H, M, ι, tr, k, hc, s, hn, he, h => by
    simp only [wexec] at h
    obtain ⟨l0, tr, hl00, h⟩ := wStep_ok h
    have he : EnvR R ι M l0 lA := fun t => by rw [hl00 t]; exact he t
    split at h
    case h_2 => exact h.elim
    rename_i ms bs ts ex outs out r0 _
    obtain ⟨s0, k0, hl0⟩ := kl_ok tr hn s
    obtain ⟨vs, blks, ι1, hk, s1, k1, hv⟩ := wEnter_ok s0 (by rw [hl0]; exact hn) (he.map keep) h
    obtain ⟨r, hrun, hk⟩ := need_ok hk
    obtain ⟨lA', M', ι', q1, q2, q3, q4⟩ := hrun R ι1 M lA s1 (fun t => (zip_rel keep vs hv t).1)
    refine CodeR.after (range_more k0) (CodeR.after k1 (CodeR.after q3 ?_))
    exact ⟨ex, lA', M', ι', outs, out, r, by simp only [bexec]; exact q1, q2, .refl _ _ _ _ _ q3.next, q4, hk⟩
  | .exit i, l, lA, H, M, ι, tr, k, _, s, hn, he, h => ⟨.exit i, lA, M, ι, l, H, tr, rfl, s, .refl _ _ _ _ _ hn, he, h⟩
  | .ret, l, lA, H, M, ι, tr, k, _, s, hn, he, h => ⟨.ret, lA, M, ι, l, H, tr, rfl, s, .refl _ _ _ _ _ hn, he, h⟩
  | .fail, l, lA, H, M, ι, tr, k, _, s, hn, he, h => by simp [wexec] at h

theorem VL.not_undef {M : Heap} {O : Nat → Prop} {κ : VI} {v a : AV} (h : VL M O κ v a) (hv : v ≠ .undef) : a ≠ .undef := by
  cases v with
  | undef => exact absurd rfl hv
  | ptr p => cases p <;> simp only [VL] at h <;> first | (subst h; simp) | (obtain ⟨_, _, rfl⟩ := h; simp)
  | slice p => cases p <;> simp only [VL] at h; obtain ⟨_, _, rfl⟩ := h; simp
  | map p => cases p <;> simp only [VL] at h <;> first | (subst h; simp) | (obtain ⟨_, _, rfl⟩ := h; simp)
  | func f cs => simp only [VL] at h; obtain ⟨_, rfl, _⟩ := h; simp
  | agg cs => simp only [VL] at h; obtain ⟨_, rfl, _⟩ := h; simp
  | tuple cs => simp only [VL] at h; obtain ⟨_, rfl, _⟩ := h; simp
  | list => simp only [VL] at h; rcases h with ⟨_, _, _, rfl⟩ | ⟨_, _, _, _, rfl, _⟩ <;> simp
  | elem => simp only [VL] at h; obtain ⟨_, _, _, _, _, rfl, _⟩ := h; simp
  | acc => simp only [VL] at h; obtain ⟨_, _, _, _, rfl, _⟩ := h; simp
  | _ => simp only [VL] at h; subst h; simp

theorem wRes_ok {R : Nat → Prop} {ι : VI} {H : WH} {M : Heap} (s : VS R ι H M) {l lA : Fast} (he : EnvR R ι M l lA) {r : ARes} {v : AV} (h : wRes r l H = some v) : ∃ a, bRes r lA M = some a ∧ VL M (OR R ι) ι v a := by
  cases r with
  | tmp t =>
    have ht := he t
    simp only [wRes, bRes] at h ⊢
    split at h
    · cases h
    · rename_i hne
      obtain rfl := Option.some.inj h
      have := ht.not_undef hne
      generalize look lA t = Y at *
      cases Y <;> simp_all
  | cell t agg n =>
    simp only [wRes] at h
    have := wL_ok s he (o := .load agg n (.t t)) rfl (v := v) (by simpa only [LOp.sub, AX.sub] using h)
    simpa only [LOp.sub, AX.sub, aL, AX.ev, bRes] using this

theorem wResL_ok {R : Nat → Prop} {ι : VI} {H : WH} {M : Heap} (s : VS R ι H M) {l lA : Fast} (he : EnvR R ι M l lA) : ∀ {rs : List ARes} {vs : List AV}, wResL rs l H = some vs → ∃ as, bResL rs lA M = some as ∧ VLL M (OR R ι) ι vs as
  | [], vs, h => by
    simp only [wResL, Option.some.injEq] at h
    subst h
    exact ⟨[], rfl, by simp [VLL]⟩
  | r :: rs, vs, h => by
    simp only [wResL] at h
    split at h
    case h_2 => cases h
    rename_i v vs' h1 h2
    obtain rfl := Option.some.inj h
    obtain ⟨a, e1, e2⟩ := wRes_ok s he h1
    obtain ⟨as, e3, e4⟩ := wResL_ok s he h2
    exact ⟨a :: as, by simp only [bResL, e1, Option.bind_some, e3, Option.map_some], by simp only [VLL]; exact ⟨e2, e4⟩⟩

theorem wResults_ok {R : Nat → Prop} {ι : VI} {H : WH} {M : Heap} (s : VS R ι H M) {l lA : Fast} (he : EnvR R ι M l lA) {rs : List ARes} {v : AV} (h : wResults rs l H = some v) : ∃ a, bResults rs lA M = some a ∧ VL M (OR R ι) ι v a := by
  unfold wResults at h
  split at h
  · rename_i u hu
    obtain rfl := Option.some.inj h
    obtain ⟨as, e1, e2⟩ := wResL_ok s he hu
    match as, e2 with
    | [], e2 => simp [VLL] at e2
    | [a], e2 =>
      simp only [VLL] at e2
      exact ⟨a, by simp only [bResults, e1, Option.map_some], e2.1⟩
    | _ :: _ :: _, e2 => simp [VLL] at e2
  · rename_i vs hne hvs
    obtain rfl := Option.some.inj h
    obtain ⟨as, e1, e2⟩ := wResL_ok s he hvs
    refine ⟨.tuple as, ?_, by simp only [VL]; exact ⟨as, rfl, e2⟩⟩
    simp only [bResults, e1, Option.map_some]
    match as, e2 with
    | [], e2 => rfl
    | [a], e2 =>
      match vs, e2 with
      | [], e2 => simp [VLL] at e2
      | [u], e2 => exact absurd rfl (hne u)
      | _ :: _ :: _, e2 => simp [VLL] at e2
    | _ :: _ :: _, e2 => rfl
  · cases h

theorem wEnd_ok {R : Nat → Prop} {ι : VI} {H : WH} {M : Heap} (s : VS R ι H M) {np : Nat} (hn : np ≤ H.length) {v a : AV} (hv : VL M (OR R ι) ι v a) {tr : TS} {v' : AV} {out : WH} (h : wEnd np v H tr v' out) :
    ∃ ι', VS R ι' out M ∧ Stp np [] ι H M ι' out M ∧ VL M (OR R ι') ι' v' a := by
  unfold wEnd at h
  split at h
  case h_2 => exact h.elim
  rename_i m ts mc _
  obtain ⟨s0, k0, hl0⟩ := kl_ok tr hn s
  have hn0 := hn
  rw [← hl0] at hn
  generalize wkl tr H = H0 at *
  obtain ⟨ι1, h1, h2, h3⟩ := nrm_ok m s0 (VL.retag v (ts.headD .undef) a hv)
  generalize hr : nrm m (Proofs.Ytlcjmchhnbdepaa.retag v (ts.headD .undef)) H0 = r at *
  obtain ⟨v1, H1⟩ := r
  simp only at h h1 h2 h3
  obtain ⟨ι2, k1, k2⟩ := nrmBs_ok [] mc (clo H1 np (idsOf v1)) H1 ι1 M h1
  have k3 := VL.step h1 k2 h3
  obtain ⟨rfl, rfl⟩ := h
  obtain ⟨ι3, q1, q2, q3⟩ := gc_ok k1 (Nat.le_trans hn (Nat.le_trans h2.next k2.next)) (idsOf v1) (vs := [v1]) (as := [a]) (by simp only [VLL]; exact ⟨k3, trivial⟩)
  simp only [rnL, VLL] at q3
  refine ⟨ι3, q1, ?_, q3.1⟩
  have e1 : Stp np [] ι H0 M ι1 H1 M := h2.weak hn
  have e2 : Stp np [] ι1 H1 M ι2 _ M := k2.weak (Nat.le_trans hn h2.next)
  have := (k0.trans (e1.trans e2 (Nat.le_refl _)) (Nat.le_refl _)).trans q2 (Nat.le_refl _)
  simpa using this

theorem start_rel {M : Heap} {O : Nat → Prop} {κ : VI} : ∀ {vs as : List AV} (i : Nat), VLL M O κ vs as → ∀ t, VL M O κ (look (start i vs) t) (look (start i as) t)
  | [], [], i, _, t => by simp [start, look, VL]
  | v :: vs, a :: as, i, h, t => by
    simp only [VLL] at h
    simp only [start, look_cons2]
    split
    · exact h.1
    · exact start_rel (i + 1) h.2 t
  | [], _ :: _, _, h, _ => by simp [VLL] at h
  | _ :: _, [], _, h, _ => by simp [VLL] at h

/-- What a function does. -/
theorem spec_of {G : Sums} {T : FuncId → Option AFunc} {K d : Nat} {B : FuncId → Option Bt} (hB : ∀ f b, B f = some b → BOk (bcall G T K d) f b) {f : FuncId} (hG : G f = none) {af : AFunc} (hT : T f = some af) (hc : af.code.okc = true) {args : List AV} {blks : WH} {tr : TS} {v : AV} {out : WH}
    (h1 : args.length = af.nargs) (h2 : af.nargs ≤ af.ntmps) (h3 : wBody (bcall G T K d) B K af args blks tr v out) : Spec (bcall G T K (d + 1)) f args blks v out := by
  intro R ι M as s hv
  have hl := hv.length
  have hst : EnvR R ι M (start 0 (args ++ List.replicate (af.ntmps - af.nargs) (.tuple []))) (start 0 (as ++ List.replicate (af.ntmps - af.nargs) (.tuple []))) := by
    refine start_rel 0 (hv.append ?_)
    generalize af.ntmps - af.nargs = m
    induction m with
    | zero => simp [VLL]
    | succ m ih => simp only [List.replicate_succ, VLL]; exact ⟨VL.unit, ih⟩
  obtain ⟨ex, lA', M', ι', l', H', tr', q1, q2, q3, q4, q5⟩ := wexec_ok hB af.code _ _ blks M ι tr _ hc s (Nat.le_refl _) hst h3
  obtain ⟨l1, tr1, hl1, q5⟩ := wStep_ok q5
  have q4 : EnvR R ι' M' l1 lA' := fun t => by rw [hl1 t]; exact q4 t
  have fin : ∀ {ex}, (match wResults af.results l1 H' with
      | some u => wEnd blks.length u H' tr1 v out
      | none => False) → (ex = .normal ∨ ex = .ret) → bexec (bcall G T K d) K af.ntmps af.code (start 0 (as ++ List.replicate (af.ntmps - af.nargs) (.tuple []))) M = some (ex, lA', M') →
      ∃ a M' ι', bcall G T K (d + 1) f as M = some (a, M') ∧ VS R ι' out M' ∧ Stp blks.length (List.range blks.length) ι blks M ι' out M' ∧ VL M' (OR R ι') ι' v a := by
    intro ex hm hx hrun
    split at hm
    case h_2 => exact hm.elim
    rename_i u hu
    obtain ⟨a, e1, e2⟩ := wResults_ok q2 q4 hu
    obtain ⟨ι2, e3, e4, e5⟩ := wEnd_ok q2 q3.next e2 hm
    refine ⟨a, M', ι2, ?_, e3, range_more (q3.trans e4 (Nat.le_refl _)), e5⟩
    simp only [bcall, hG, hT, bbody]
    rw [if_pos ⟨by rw [← hl]; exact h1, h2⟩]
    rcases hx with rfl | rfl <;> simp only [hrun, e1, Option.map_some]
  cases ex with
  | normal => exact fin q5 (.inl rfl) q1
  | ret => exact fin q5 (.inr rfl) q1
  | exit i => exact q5.elim

/-- What a part of a function does. -/
theorem runS_of {C : ACalls} {B : FuncId → Option Bt} (hB : ∀ f b, B f = some b → BOk C f b) {K n np : Nat} {code : ACode} (hc : code.okc = true) {ins : Fast} {blks : WH} (hn : np ≤ blks.length) {tr : TS} {x : Ex × Fast × WH}
    (h : wCode C B K n np code ins blks tr x) : RunS (bexec C K n code) np ins blks x.1 x.2.1 x.2.2 := by
  intro R ι M lA s he
  obtain ⟨ex', lA', M', ι', l', H', tr', q1, q2, q3, q4, q5⟩ := wexec_ok hB code ins lA blks M ι tr _ hc s hn he h
  unfold wPart at q5
  obtain ⟨l1, tr', hl1, q5⟩ := wStep_ok q5
  have q4 : EnvR R ι' M' l1 lA' := fun t => by rw [hl1 t]; exact q4 t
  split at q5
  case h_2 => exact q5.elim
  rename_i keep ms bs ts _
  obtain ⟨s0, k0, hl0⟩ := kl_ok tr' q3.next q2
  obtain ⟨vs', out', ι2, ⟨rfl, e1, e2⟩, s2, k2, hv⟩ := wEnter_ok s0 (by rw [hl0]; exact q3.next) (q4.map keep) q5
  rw [← e1, ← e2]
  exact ⟨lA', M', ι2, q1, s2, range_more (q3.trans ((range_more k0).trans k2 (Nat.le_refl _)) (Nat.le_refl _)), fun t => (zip_rel keep vs' hv t).1⟩

/-- The same, out of a tree. -/
theorem spec_by {G : Sums} {T : FuncId → Option AFunc} {K d : Nat} {B : FuncId → Option Bt} (hB : ∀ f b, B f = some b → BOk (bcall G T K d) f b) {f : FuncId} {af : AFunc} (hf : G f = none ∧ T f = some af ∧ af.code.okc = true) {args : List AV} {blks : WH} {R : Type} {o : R → AV × WH} {r : R} {F : Option R}
    (h : F = some r) (t : Tc F) (h1 : args.length = af.nargs := by rfl) (h2 : Nat.ble af.nargs af.ntmps = true := by rfl) (e : wBody (bcall G T K d) B K af args blks ⟨t⟩ (o r).1 (o r).2 = claim (fun v => (o v).1 = (o r).1 ∧ (o v).2 = (o r).2) r t := by kernel_rfl) : Spec (bcall G T K (d + 1)) f args blks (o r).1 (o r).2 :=
  spec_of hB hf.1 hf.2.1 hf.2.2 h1 (Nat.le_of_ble_eq_true h2) (e.mpr (claim_ok ⟨rfl, rfl⟩ t h))
theorem run_by {C : ACalls} {B : FuncId → Option Bt} (hB : ∀ f b, B f = some b → BOk C f b) {K n np : Nat} {code : ACode} (hc : code.okc = true) {ins : Fast} {blks : WH} {R : Type} {o : R → Ex × Fast × WH} {r : R} {F : Option R}
    (h : F = some r) (t : Tc F) (hn : Nat.ble np blks.length = true := by rfl) (e : wCode C B K n np code ins blks ⟨t⟩ (o r) = claim (fun v => (o v).1 = (o r).1 ∧ (o v).2.1 = (o r).2.1 ∧ (o v).2.2 = (o r).2.2) r t := by kernel_rfl) : RunS (bexec C K n code) np ins blks (o r).1 (o r).2.1 (o r).2.2 :=
  runS_of hB hc (Nat.le_of_ble_eq_true hn) (e.mpr (claim_ok ⟨rfl, rfl, rfl⟩ t h))

/-! ### Loops -/

/-- A loop over states. -/
def loopX {S E : Type} (step : S → Option (S ⊕ E)) : Nat → S → Option E
  | 0, _ => none
  | k + 1, s => match step s with
    | none => none
    | some (.inl s) => loopX step k s
    | some (.inr e) => some e

/-- How a round ends. -/
def roundX {S E : Type} (keep : List Nat) (st : S → List AV × WH) (fin : E → Ex × Fast × WH) : S ⊕ E → Ex × Fast × WH
  | .inl s => (.normal, zipKeep keep (st s).1, (st s).2)
  | .inr e => fin e

theorem look_bkeep {l : Fast} (t : Nat) : ∀ keep : List Nat, look (bkeep l keep) t = if t ∈ keep then look l t else .undef
  | [] => by simp [bkeep, look]
  | u :: r => by
    simp only [bkeep, look_cons2, look_bkeep t r, List.mem_cons]
    by_cases e : u = t
    · subst e; simp
    · simp [e, Ne.symm e, show ¬ t = u from fun h => e h.symm]

/-- A round: what it begins with, and how it ends. -/
theorem loop_of {S E : Type} {body : Fast → Heap → BOut} {np : Nat} {keep : List Nat} {st : S → List AV × WH} {fin : E → Ex × Fast × WH} {step : S → Option (S ⊕ E)} (hE : ∀ e, (fin e).1 ≠ .normal)
    (hr : ∀ s x, step s = some x → RunS body np (zipKeep keep (st s).1) (st s).2 (roundX keep st fin x).1 (roundX keep st fin x).2.1 (roundX keep st fin x).2.2) :
    ∀ (k : Nat) (s : S) (e : E), loopX step k s = some e → RunS (bloop body keep k) np (zipKeep keep (st s).1) (st s).2 (fin e).1 (fin e).2.1 (fin e).2.2
  | 0, s, e, h => by simp [loopX] at h
  | k + 1, s, e, h => by
    intro R ι M lA vs he
    have zk : ∀ (keep : List Nat) (xs : List AV) (t : Nat), t ∉ keep → look (zipKeep keep xs) t = .undef := fun keep => by
      induction keep with
      | nil => intro xs t _; cases xs <;> simp [zipKeep, look]
      | cons u r ih =>
        intro xs t ht
        rw [List.mem_cons, not_or] at ht
        cases xs with
        | nil => simp [zipKeep, look]
        | cons v xs =>
          simp only [zipKeep, look_cons2]
          rw [if_neg (fun e => ht.1 e.symm)]
          exact ih xs t ht.2
    have he' : ∀ t, VL M (OR R ι) ι (look (zipKeep keep (st s).1) t) (look (bkeep lA keep) t) := fun t => by
      rw [look_bkeep]
      split
      · exact he t
      · rename_i ht
        rw [zk keep _ t ht]
        simp [VL]
    simp only [loopX] at h
    split at h
    · cases h
    · rename_i s' hs
      have := hr s _ hs
      obtain ⟨lA', M', ι', q1, q2, q3, q4⟩ := this R ι M (bkeep lA keep) vs he'
      obtain ⟨lA2, M2, ι2, r1, r2, r3, r4⟩ := loop_of hE hr k s' e h R ι' M' lA' q2 q4
      refine ⟨lA2, M2, ι2, ?_, r2, range_more (q3.trans r3 (Nat.le_refl _)), r4⟩
      simp only [bloop, q1]
      exact r1
    · rename_i e' hs
      obtain rfl := Option.some.inj h
      have := hr s _ hs
      simp only [roundX] at this
      obtain ⟨lA', M', ι', q1, q2, q3, q4⟩ := this R ι M (bkeep lA keep) vs he'
      refine ⟨lA', M', ι', ?_, q2, q3, q4⟩
      simp only [bloop, q1]
      have := hE e'
      generalize (fin e').1 = x at *
      cases x with
      | normal => exact absurd rfl this
      | exit i => rfl
      | ret => rfl

end Go.Proofs.Ytlcjmchhnbdepaa
end

section
/- W, fifteenth part: what the arguments hold, as lists; what a law owes. -/
set_option linter.all false
set_option linter.unusedSimpArgs false
namespace Go.Proofs.Ytlcjmchhnbdepaa
open Go.ChangeShapes Go.WideShapes Go.ChangeAt Go.RowKit

mutual
def shSize : Sh → Nat
  | .agg ss => shSizes ss
  | _ => 1
def shSizes : List Sh → Nat
  | [] => 0
  | s :: r => shSize s + shSizes r
end

mutual
/-- What is read, as V's cells. -/
def encS : Sh → D → List AV
  | .bool, .bool b => [.bool b]
  | .int _, .int k n => [.int k n]
  | .str, .str s => [.str s]
  | .list e, .list l => [.list (shSize e) l.length (encL e l) false]
  | .agg ss, .agg l => encSs ss l
  | _, _ => []
def encL (e : Sh) : List D → List AV
  | [] => []
  | d :: r => encS e d ++ encL e r
def encSs : List Sh → List D → List AV
  | s :: ss, d :: r => encS s d ++ encSs ss r
  | _, _ => []
end

theorem encSs_replicate {e : Sh} : ∀ {l : List D} {n : Nat}, l.length = n → encSs (List.replicate n e) l = encL e l
  | [], n, h => by
    subst h
    simp [encSs, encL]
  | d :: r, n, h => by
    subst h
    simp only [List.length_cons, List.replicate_succ, encSs, encL]
    rw [encSs_replicate rfl]

theorem shSizes_replicate (s : Sh) : ∀ n, shSizes (List.replicate n s) = n * shSize s
  | 0 => by simp [shSizes]
  | n + 1 => by
    rw [List.replicate_succ, shSizes, shSizes_replicate s n, Nat.succ_mul, Nat.add_comm]

theorem shSize_eq {P : Program} (hl : laidOutB P = true) : ∀ (k : Nat) (t : TypeId) (s : Sh), shOf P k t = some s → t < P.types.size → P.cellsOf t = shSize s
  | 0, _, _, h, _ => by simp [shOf] at h
  | k + 1, t, s, h, ht => by
    have hr := Go.rowFine_of hl ht
    simp only [shOf] at h
    split at h
    case h_7 => cases h
    · rename_i hu
      obtain rfl := Option.some.inj h
      simpa [rowFine, isVar, ht, hu, kindOk, shSize] using hr
    · rename_i i hu
      obtain rfl := Option.some.inj h
      simpa [rowFine, isVar, ht, hu, kindOk, shSize] using hr
    · rename_i hu
      obtain rfl := Option.some.inj h
      simpa [rowFine, isVar, ht, hu, kindOk, shSize] using hr
    · rename_i e hu
      split at h
      · cases h
      obtain ⟨se, hse, rfl⟩ := Option.map_eq_some_iff.1 h
      simp [rowFine, isVar, ht, hu, kindOk] at hr
      simpa [shSize] using hr.2
    · rename_i fs hu
      obtain ⟨ss, hss, rfl⟩ := Option.map_eq_some_iff.1 h
      obtain ⟨h1, h2, _⟩ := Go.kid_struct hl ht hu
      rw [h2, shSize]
      have hall : ∀ (fl : List Field) (ss : List Sh), (∀ f ∈ fl, f.type < P.types.size) → mapO (shOf P k) (fl.map fun f => f.type) = some ss → (fl.map fun f => P.cellsOf f.type).sum = shSizes ss := by
        intro fl
        induction fl with
        | nil =>
          intro ss _ h
          simp [mapO] at h
          subst h
          simp [shSizes]
        | cons f fl ih =>
          intro ss hf h
          simp only [List.map_cons, mapO] at h
          split at h
          case h_2 => cases h
          rename_i s r h1 h2
          obtain rfl := Option.some.inj h
          rw [List.map_cons, List.sum_cons, shSizes, shSize_eq hl k _ _ h1 (hf f (by simp)), ih r (fun g hg => hf g (by simp [hg])) h2]
      exact hall fs.toList ss h1 hss
    · rename_i n e hu
      obtain ⟨se, hse, rfl⟩ := Option.map_eq_some_iff.1 h
      obtain ⟨h1, h2⟩ := Go.kid_array hl ht hu
      rw [h2, shSize, shSizes_replicate, shSize_eq hl k _ _ hse h1]

mutual
theorem VL.sub {M M' : Heap} {κ κ' : VI} (h : M.Sub M') (hn : M.next ≤ M'.next) : ∀ (v a : AV), VL M (fun _ => False) VI.none v a → VL M' (fun _ => False) VI.none v a
  | .undef, _, _ => by simp [VL]
  | .bool _, _, e => by simpa [VL] using e
  | .int _ _, _, e => by simpa [VL] using e
  | .str _, _, e => by simpa [VL] using e
  | .ptr none, _, e => by simpa [VL] using e
  | .ptr (some q), _, e => by simp [VL, VI.none] at e
  | .slice none _ _ _ _, _, e => by simpa [VL] using e
  | .slice (some q) _ _ _ _, _, e => by simp [VL, VI.none] at e
  | .map none, _, e => by simpa [VL] using e
  | .map (some r), _, e => by simp [VL, VI.none] at e
  | .func f cs, _, e => by
    simp only [VL] at e ⊢
    obtain ⟨cs', h1, h2⟩ := e
    exact ⟨cs', h1, VLL.sub h hn cs cs' h2⟩
  | .nilFunc, _, e => by simpa [VL] using e
  | .agg cs, _, e => by
    simp only [VL] at e ⊢
    obtain ⟨cs', h1, h2⟩ := e
    exact ⟨cs', h1, VLL.sub h hn cs cs' h2⟩
  | .tuple cs, _, e => by
    simp only [VL] at e ⊢
    obtain ⟨cs', h1, h2⟩ := e
    exact ⟨cs', h1, VLL.sub h hn cs cs' h2⟩
  | .list sz len cs ex, _, e => by
    simp only [VL] at e ⊢
    rcases e with e | ⟨b, o, cap, ex', h1, h2, h3, h4, h5⟩
    · exact .inl e
    refine .inr ⟨b, o, cap, ex', h1, h2, h3, h4, fun hl => ?_⟩
    obtain ⟨c, ro, sl, g1, g2, g3, g4, g5⟩ := h5 hl
    exact ⟨c, ro, sl, h _ _ g1, g2, Nat.lt_of_lt_of_le g3 hn, g4, VLL.sub h hn cs _ g5⟩
  | .elem cs, _, e => by
    simp only [VL] at e ⊢
    obtain ⟨b, o, c, ro, sl, h1, g1, g2, g3, g5⟩ := e
    exact ⟨b, o, c, ro, sl, h1, h _ _ g1, g2, Nat.lt_of_lt_of_le g3 hn, VLL.sub h hn cs _ g5⟩
  | .acc b o sz n w, _, e => by simp [VL, VI.none] at e
theorem VLL.sub {M M' : Heap} (h : M.Sub M') (hn : M.next ≤ M'.next) : ∀ (l r : List AV), VLL M (fun _ => False) VI.none l r → VLL M' (fun _ => False) VI.none l r
  | [], [], _ => by simp [VLL]
  | a :: l, v :: r, e => by
    simp only [VLL] at e ⊢
    exact ⟨VL.sub (κ := VI.none) (κ' := VI.none) h hn a v e.1, VLL.sub h hn l r e.2⟩
  | [], _ :: _, e => by simp [VLL] at e
  | _ :: _, [], e => by simp [VLL] at e
end

abbrev VLL0 (M : Heap) := VLL M (fun _ => False) VI.none

/-- What is opened: a row of cells, as data. -/
def OpensV (W : World) (s : Sh) (cs : List Value) (d : D) : Prop :=
  ∀ ι M, R ι M W → ReadOnly M → ∃ ι' M' avs, Grow ι M ι' M' W ∧ VRL ι' avs cs ∧ (∀ a ∈ avs, a.isCell = true) ∧ VLL0 M' (encS s d) avs ∧ D.is s d

def OpensAllV (W : World) : List Sh → List (List Value) → List D → Prop
  | [], [], [] => True
  | s :: ss, c :: cs, d :: ds => OpensV W s c d ∧ OpensAllV W ss cs ds
  | _, _, _ => False

theorem OpensAllV.open {W : World} : ∀ {ss : List Sh} {css : List (List Value)} {ds : List D}, OpensAllV W ss css ds → ∀ ι M, R ι M W → ReadOnly M →
    ∃ ι' M' , ∃ pieces : List (List AV), Grow ι M ι' M' W ∧ pieces.map List.length = css.map List.length ∧ VRL ι' pieces.flatten css.flatten ∧ (∀ p ∈ pieces, ∀ a ∈ p, a.isCell = true) ∧ VLL0 M' (encSs ss ds) pieces.flatten ∧ D.are ss ds
  | [], [], [], _, ι, M, r, ro => ⟨ι, M, [], .refl r ro, rfl, by simp [VRL], by simp, by simp [encSs, VLL0, VLL], by simp [D.are]⟩
  | s :: ss, c :: css, d :: ds, h, ι, M, r, ro => by
    simp only [OpensAllV] at h
    obtain ⟨ι1, M1, avs, g1, v1, c1, r1, i1⟩ := h.1 ι M r ro
    obtain ⟨ι2, M2, ps, g2, l2, v2, c2, r2, i2⟩ := OpensAllV.open h.2 ι1 M1 g1.rel g1.ro
    refine ⟨ι2, M2, avs :: ps, g1.trans g2, ?_, ?_, ?_, ?_, ?_⟩
    · have := v1.length
      simp [l2, this]
    · simp only [List.flatten_cons]
      exact (v1.mono g2.le).append v2
    · intro p hp
      rcases List.mem_cons.1 hp with rfl | hp
      · exact c1
      · exact c2 p hp
    · simp only [encSs, List.flatten_cons]
      exact (VLL.sub g2.sub g2.next _ _ r1).append r2
    · simp only [D.are]
      exact ⟨i1, i2⟩
  | [], [], _ :: _, h, _, _, _, _ => by simp [OpensAllV] at h
  | [], _ :: _, _, h, _, _, _, _ => by simp [OpensAllV] at h
  | _ :: _, [], _, h, _, _, _, _ => by simp [OpensAllV] at h
  | _ :: _, _ :: _, [], h, _, _, _, _ => by simp [OpensAllV] at h

theorem OpensAllV.of_get {W : World} : ∀ {ss : List Sh} {css : List (List Value)} {ds : List D}, ss.length = ds.length → css.length = ds.length →
    (∀ (i : Nat) s c d, ss[i]? = some s → css[i]? = some c → ds[i]? = some d → OpensV W s c d) → OpensAllV W ss css ds
  | [], [], [], _, _, _ => by simp [OpensAllV]
  | s :: ss, c :: css, d :: ds, h1, h2, h => by
    simp only [OpensAllV]
    exact ⟨h 0 s c d (by simp) (by simp) (by simp), OpensAllV.of_get (by simpa using h1) (by simpa using h2) fun i s c d a1 a2 a3 => h (i + 1) s c d (by simpa using a1) (by simpa using a2) (by simpa using a3)⟩
  | [], _, _ :: _, h1, _, _ => by simp at h1
  | _ :: _, _, [], h1, _, _ => by simp at h1
  | _, [], _ :: _, _, h2, _ => by simp at h2
  | _, _ :: _, [], _, h2, _ => by simp at h2

theorem opens_oneV {W : World} {s : Sh} {v : Value} {a : AV} {d : D} (hv : ∀ ι, VR ι a v) (hc : a.isCell = true) (hr : ∀ M, VLL0 M (encS s d) [a]) (hs : D.is s d) : OpensV W s [v] d := fun ι M r ro =>
  ⟨ι, M, [a], .refl r ro, by simp only [VRL]; exact ⟨hv ι, trivial⟩, fun x hx => by simp at hx; subst hx; exact hc, hr M, hs⟩

theorem open_trodV {H : Type} {enc : TypeId × Value → H} {P : Program} (hl : laidOutB P = true) {W : World} : ∀ (k : Nat) (t : TypeId) (s : Sh), shOf P k t = some s → t < P.types.size →
    ∀ (fuel : Nat) (cs : List Value) (x : DataW H × List MemPlace), DataW.trod enc P W 0 (fun _ => true) true fuel t cs = some x → OpensV W s cs (toD x.1)
  | 0, _, _, hs, _, _, _, _, _ => by simp [shOf] at hs
  | k + 1, t, s, hs, ht, fuel, cs, x, h => by
    simp only [shOf] at hs
    split at hs
    case h_7 => cases hs
    · rename_i hu
      obtain rfl := Option.some.inj hs
      obtain ⟨b, rfl, rfl⟩ := DataW.trod_bool hu h
      exact opens_oneV (a := .bool b) (fun ι => by simp [VR]) rfl (fun M => by simp [toD, encS, VLL, VL]) ⟨b, rfl⟩
    · rename_i i hu
      obtain rfl := Option.some.inj hs
      obtain ⟨n, rfl, rfl, hw⟩ := DataW.trod_int hu h
      simp only [Lit.wf, Bool.and_eq_true, decide_eq_true_eq] at hw
      exact opens_oneV (a := .int i n) (fun ι => by simp [VR]) rfl (fun M => by simp [toD, encS, VLL, VL]) ⟨n, rfl, hw⟩
    · rename_i hu
      obtain rfl := Option.some.inj hs
      obtain ⟨b, rfl, rfl, hw⟩ := DataW.trod_string hu h
      exact opens_oneV (a := .str b.data.toList) (fun ι => by simp only [VR]; exact ⟨b, rfl, rfl⟩) rfl (fun M => by simp [toD, encS, VLL, VL]) ⟨_, rfl⟩
    · rename_i e hu
      split at hs
      · cases hs
      rename_i hsz
      obtain ⟨se, hse, rfl⟩ := Option.map_eq_some_iff.1 hs
      have hte : e < P.types.size := Go.kid_slice hl ht hu
      rcases DataW.trod_slice hu h with ⟨rfl, rfl⟩ | ⟨a, len, cap, elems, rest, n, rfl, rfl, rfl, _, hlc, _, hlen, hel, hre, _⟩
      · exact opens_oneV (a := .slice none (shSize se) 0 0 true) (fun ι => by simp [VR]) rfl (fun M => by simp [toD, encS, encL, VLL, VL]) ⟨[], by simp [toD], by simp⟩
      · intro ι M r ro
        obtain ⟨hrl, hre⟩ := hre rfl
        simp only [toD]
        have hsz' := shSize_eq hl _ _ _ hse hte
        generalize hz : P.cellsOf e = sz at *
        rcases Nat.eq_zero_or_pos cap with hc0 | hcp
        · subst hc0
          obtain rfl : len = 0 := by omega
          have hel0 : elems = [] := by simpa using hlen
          subst hel0
          refine ⟨_, _, [.slice (some (M.next, 0)) sz 0 0 true], Grow.skip r ro ⟨a.block, 0, 0⟩, ?_, ?_, ?_, ?_⟩
          · simp only [VRL, VR, and_true]
            exact ⟨⟨a.block, 0, 0⟩, a, 0, by simp [Inj.set], rfl, .inl rfl, .inl rfl, .inl rfl, Nat.le_refl _, Nat.le_refl _, fun _ => rfl, by simp, by omega⟩
          · intro y hy
            simp at hy
            subst hy
            rfl
          · simp only [List.map_nil, toDs, encS, encL, VLL, VL, and_true]
            exact .inr ⟨M.next, 0, 0, true, by rw [hsz']; rfl, Nat.le_refl _, by simp, by simp, fun h => absurd rfl h⟩
          · exact ⟨[], by simp [toDs], by simp⟩
        · -- every element's cells
          have all : ∀ i, i < cap → ∃ ci, W.cells? 0 (a.add (i * sz)) sz = some ci ∧ (i < len → ∃ y, elems[i]? = some y ∧ DataW.trod enc P W 0 (fun _ => true) true n e ci = some y) := by
            intro i hi
            by_cases hil : i < len
            · have h1 := hel i hil
              rw [List.getElem?_eq_getElem (by omega)] at h1
              obtain ⟨ci, h2, h3⟩ := Option.bind_eq_some_iff.1 h1
              exact ⟨ci, h2, fun _ => ⟨_, List.getElem?_eq_getElem (by omega), h3⟩⟩
            · have h1 := hre (i - len) (by omega)
              rw [List.getElem?_eq_getElem (by omega)] at h1
              obtain ⟨ci, h2, h3⟩ := Option.bind_eq_some_iff.1 h1
              rw [show len + (i - len) = i from by omega] at h2
              exact ⟨ci, h2, fun hx => absurd hx hil⟩
          obtain ⟨c0, hc0, _⟩ := all 0 hcp
          obtain ⟨_, hl0, hg0⟩ := World.cells?_some hc0
          have hone := hg0 0 (by omega)
          rw [List.getElem?_eq_getElem (by omega)] at hone
          obtain ⟨c, el, fz, hob, hsp, _⟩ := cell_here hone
          have ha0 : (a.add (0 * sz)).add 0 = a := by simp [Addr.add]
          rw [ha0] at hob hsp
          obtain ⟨j, off, spot⟩ := a
          simp only at hob hsp
          subst hsp
          have cellv : ∀ i v, W.cell? ⟨j, i, none⟩ = some v → c[i]? = some v := fun i v hv => by
            simpa [World.cell?, hob] using hv
          have celle : ∀ i, W.cell? ⟨j, i, none⟩ = c[i]? := fun i => by simp [World.cell?, hob]
          have rowi : ∀ i ci, W.cells? 0 ((⟨j, off, none⟩ : Addr).add (i * sz)) sz = some ci → ci = (c.toList.drop (off + i * sz)).take sz ∧ off + i * sz + sz ≤ c.size := by
            intro i ci hci
            obtain ⟨_, q1, q2⟩ := World.cells?_some hci
            have hsize : off + i * sz + sz ≤ c.size := by
              have := q2 (sz - 1) (by omega)
              rw [add_none, add_none, celle, List.getElem?_eq_getElem (by omega)] at this
              have := (Array.getElem?_eq_some_iff.1 this).1
              omega
            refine ⟨?_, hsize⟩
            apply List.ext_getElem?
            intro q
            by_cases hq : q < sz
            · have := q2 q hq
              rw [add_none, add_none, celle] at this
              rw [← this, List.getElem?_take, if_pos hq, List.getElem?_drop, Array.getElem?_toList]
            · rw [List.getElem?_eq_none (by omega), List.getElem?_eq_none (by simp; omega)]
          have hend : off + cap * sz ≤ c.size := by
            obtain ⟨ci, h1, _⟩ := all (cap - 1) (by omega)
            have := (rowi _ _ h1).2
            have : (cap - 1) * sz + sz = cap * sz := by rw [← Nat.succ_mul]; congr 1; omega
            omega
          have hrow : len * sz ≤ cap * sz := Nat.mul_le_mul_right _ hlc
          have hopens : OpensAllV W (List.replicate len se) (chunks (List.replicate len sz) (c.toList.drop off)) (elems.map fun y => toD y.1) := by
            refine OpensAllV.of_get (by simp [hlen]) (by simp [chunks_length, hlen]) fun i s0 ci d0 h1 h2 h3 => ?_
            have hi : i < len := by
              have := (List.getElem?_eq_some_iff.1 h1).1
              simpa using this
            rw [List.getElem?_replicate, if_pos hi] at h1
            obtain rfl := Option.some.inj h1
            rw [chunks_get _ _ i sz (by rw [List.getElem?_replicate, if_pos hi])] at h2
            obtain rfl := Option.some.inj h2
            obtain ⟨ci, g1, g2⟩ := all i (by omega)
            obtain ⟨y, g3, g4⟩ := g2 hi
            obtain ⟨g5, _⟩ := rowi i ci g1
            rw [List.getElem?_map, g3] at h3
            obtain rfl := Option.some.inj h3
            have e1 : (List.take i (List.replicate len sz)).sum = i * sz := by
              rw [List.take_replicate, Nat.min_eq_left (by omega), List.sum_replicate_nat]
            rw [e1, List.drop_drop, ← g5]
            exact open_trodV hl k e se hse hte n ci y g4
          obtain ⟨ι1, M1, pieces, g1, hpl, hpv, hpc, hpp, hare⟩ := hopens.open ι M r ro
          have hflat : (chunks (List.replicate len sz) (c.toList.drop off)).flatten = (c.toList.drop off).take (len * sz) := by
            rw [chunks_flatten, List.sum_replicate_nat]
          rw [hflat] at hpv
          have hfl : pieces.flatten.length = len * sz := by
            have := hpv.length
            simp at this
            rw [List.length_flatten, this]
            omega
          have hseen := Grow.see (c := pieces.flatten) (l := ⟨j, off, cap * sz⟩) g1.rel g1.ro hob (by
            refine ⟨c, el, fz, rfl, hend, by rw [hfl]; exact hrow, (fun h => by cases h), fun i b hb => ?_, fun h => by cases h⟩
            obtain ⟨v, hv, hvr⟩ := hpv.get i b hb
            refine ⟨v, ?_, ?_, hvr⟩
            · rw [List.getElem?_take] at hv
              split at hv
              · rw [List.getElem?_drop, Array.getElem?_toList] at hv
                exact hv
              · cases hv
            · obtain ⟨p, hp, hbp⟩ := List.mem_flatten.1 (List.mem_of_getElem? hb)
              exact hpc p hp b hbp)
          have hdl : (toDs (elems.map fun y => y.1)).length = len := by rw [toDs_eq]; simp [hlen]
          refine ⟨_, _, [.slice (some (M1.next, 0)) sz len cap true], g1.trans hseen, ?_, ?_, ?_, ?_⟩
          · simp only [VRL, VR, and_true]
            exact ⟨⟨j, off, cap * sz⟩, ⟨j, off, none⟩, cap, by simp [Inj.set], rfl, .inr rfl, .inr rfl, .inr rfl, hlc, Nat.le_refl _, fun _ => rfl, by simp, by omega⟩
          · intro y hy
            simp at hy
            subst hy
            rfl
          · have e1 : toDs (elems.map fun y => y.1) = elems.map fun y => toD y.1 := by rw [toDs_eq]; simp
            rw [encSs_replicate] at hpp
            · simp only [encS, VLL, VL, and_true, e1]
              refine .inr ⟨M1.next, 0, cap, true, ?_, ?_, by simp, ?_, fun _ => ⟨pieces.flatten, true, true, by simp [Heap.push], fun h => h, by simp [Heap.push], ?_, ?_⟩⟩
              · rw [hsz', List.length_map, hlen]
              · rw [List.length_map, hlen]; exact hlc
              · rw [hpp.length, hfl, List.length_map, hlen, hsz']
              · rw [List.length_map, hlen, ← hsz']; omega
              · rw [List.length_map, hlen, ← hsz', List.drop_zero, List.take_of_length_le (by omega)]
                exact VLL.sub hseen.sub hseen.next _ _ hpp
            · simp [hlen]
          · have e1 : toDs (elems.map fun y => y.1) = elems.map fun y => toD y.1 := by rw [toDs_eq]; simp
            refine ⟨_, rfl, ?_⟩
            rw [e1]
            exact (D.are_replicate hare).2
    · rename_i fs hu
      obtain ⟨ss, hss, rfl⟩ := Option.map_eq_some_iff.1 hs
      obtain ⟨hsl, hsg⟩ := shOfs_get hss
      obtain ⟨kt, kc, ko⟩ := Go.kid_struct hl ht hu
      obtain ⟨xs, n, rfl, rfl, hcl, hxl, hget⟩ := DataW.trod_struct hu h
      intro ι M r ro
      have hopens : OpensAllV W ss (chunks (fs.toList.map fun f => P.cellsOf f.type) cs) (xs.map fun y => toD y.1) := by
        refine OpensAllV.of_get (by simp [hsl, hxl]) (by simp [chunks_length, hxl]) fun i s0 ci d0 h1 h2 h3 => ?_
        have hi : i < fs.toList.length := by
          have := (List.getElem?_eq_some_iff.1 h1).1
          simpa [hsl] using this
        have hf : fs.toList[i]? = some fs.toList[i] := List.getElem?_eq_getElem hi
        obtain ⟨s1, g1, g2⟩ := hsg i _ (by rw [List.getElem?_map, hf]; rfl)
        rw [h1] at g1
        obtain rfl := Option.some.inj g1
        rw [chunks_get _ _ i _ (by rw [List.getElem?_map, hf]; rfl)] at h2
        obtain rfl := Option.some.inj h2
        have h4 := hget i fs.toList[i] (by rw [← Array.getElem?_toList]; exact hf)
        rw [List.getElem?_map] at h3
        obtain ⟨y, hy, rfl⟩ := Option.map_eq_some_iff.1 h3
        rw [hy, ko i _ hf] at h4
        rw [← List.map_take]
        exact open_trodV hl k _ _ g2 (kt _ (List.getElem_mem hi)) n _ y h4
      obtain ⟨ι1, M1, pieces, g1, hpl, hpv, hpc, hpp, hare⟩ := hopens.open ι M r ro
      rw [chunks_flatten, ← kc, ← hcl, List.take_length] at hpv
      have e1 : toD (DataW.agg (xs.map fun y => y.1)) = .agg (xs.map fun y => toD y.1) := by simp [toD, toDs_eq]
      refine ⟨ι1, M1, pieces.flatten, g1, hpv, fun a ha => ?_, ?_, ?_⟩
      · obtain ⟨p, hp, hap⟩ := List.mem_flatten.1 ha
        exact hpc p hp a hap
      · rw [e1]
        simp only [encS]
        exact hpp
      · rw [e1]
        exact ⟨_, rfl, hare⟩
    · rename_i m e hu
      obtain ⟨se, hse, rfl⟩ := Option.map_eq_some_iff.1 hs
      obtain ⟨hte, kc⟩ := Go.kid_array hl ht hu
      obtain ⟨xs, n, rfl, rfl, hcl, hxl, hget⟩ := DataW.trod_array hu h
      intro ι M r ro
      have hopens : OpensAllV W (List.replicate m se) (chunks (List.replicate m (P.cellsOf e)) cs) (xs.map fun y => toD y.1) := by
        refine OpensAllV.of_get (by simp [hxl]) (by simp [chunks_length, hxl]) fun i s0 ci d0 h1 h2 h3 => ?_
        have hi : i < m := by
          have := (List.getElem?_eq_some_iff.1 h1).1
          simpa using this
        rw [List.getElem?_replicate, if_pos hi] at h1
        obtain rfl := Option.some.inj h1
        rw [chunks_get _ _ i (P.cellsOf e) (by rw [List.getElem?_replicate, if_pos hi])] at h2
        obtain rfl := Option.some.inj h2
        have h4 := hget i hi
        rw [List.getElem?_map] at h3
        obtain ⟨y, hy, rfl⟩ := Option.map_eq_some_iff.1 h3
        rw [hy] at h4
        have e1 : (List.take i (List.replicate m (P.cellsOf e))).sum = i * P.cellsOf e := by
          rw [List.take_replicate, Nat.min_eq_left (by omega), List.sum_replicate_nat]
        rw [e1]
        exact open_trodV hl k e se hse hte n _ y h4
      obtain ⟨ι1, M1, pieces, g1, hpl, hpv, hpc, hpp, hare⟩ := hopens.open ι M r ro
      rw [chunks_flatten, List.sum_replicate_nat, ← kc, ← hcl, List.take_length] at hpv
      have e1 : toD (DataW.agg (xs.map fun y => y.1)) = .agg (xs.map fun y => toD y.1) := by simp [toD, toDs_eq]
      refine ⟨ι1, M1, pieces.flatten, g1, hpv, fun a ha => ?_, ?_, ?_⟩
      · obtain ⟨p, hp, hap⟩ := List.mem_flatten.1 ha
        exact hpc p hp a hap
      · rw [e1]
        simp only [encS]
        exact hpp
      · rw [e1]
        exact ⟨_, rfl, hare⟩


/-! ### Arguments -/

/-- An argument: an aggregate is one value. -/
def encArg (s : Sh) (d : D) : AV :=
  match s with
  | .agg ss => .agg (encS s d)
  | s => (encS s d).headD .undef

def encArgs : List Sh → List D → List AV
  | s :: ss, d :: r => encArg s d :: encArgs ss r
  | _, _ => []

theorem open_argV {H : Type} {enc : TypeId × Value → H} {P : Program} (hl : laidOutB P = true) {W : World} {k base : Nat} {t : TypeId} {s : Sh} (hs : shOf P k t = some s) (ht : t < P.types.size) {v : Value} {d : DataW H} {ps : List MemPlace}
    (hval : Value.okWide P W .any base t v) (h : DataW.Trod enc P W 0 (fun _ => true) true t v d ps) {ι : Inj} {M : Heap} (r : R ι M W) (ro : ReadOnly M) :
    ∃ ι' M' a, Grow ι M ι' M' W ∧ VR ι' a v ∧ VL M' (fun _ => False) VI.none (encArg s (toD d)) a ∧ D.is s (toD d) := by
  obtain ⟨fuel, hf⟩ := h
  obtain ⟨ι', M', avs, g, hv, _, hr, hi⟩ := open_trodV hl k t s hs ht fuel _ _ hf ι M r ro
  simp only at hr hi
  have one : v.cells = #[v] → (∀ ss, s ≠ .agg ss) → ∃ ι' M' a, Grow ι M ι' M' W ∧ VR ι' a v ∧ VL M' (fun _ => False) VI.none (encArg s (toD d)) a ∧ D.is s (toD d) := by
    intro e1 e2
    rw [e1] at hv
    match avs, hv, hr with
    | [a], hv, hr =>
      simp only [VRL] at hv
      refine ⟨ι', M', a, g, hv.1, ?_, hi⟩
      have hlen := hr.length
      have : ∃ x, encS s (toD d) = [x] := by
        match hx : encS s (toD d), hlen with
        | [x], _ => exact ⟨x, rfl⟩
        | [], h => simp at h
        | _ :: _ :: _, h => simp at h
      obtain ⟨x, hx⟩ := this
      rw [hx] at hr
      simp only [VLL] at hr
      have he : encArg s (toD d) = x := by
        cases s with
        | agg ss => exact absurd rfl (e2 ss)
        | _ => simp [encArg, hx]
      rw [he]
      exact hr.1
    | [], hv, _ => simp [VRL] at hv
    | _ :: _ :: _, hv, _ => simp [VRL] at hv
  have many : (∃ cs, v = .agg cs) → (∃ ss, s = .agg ss) → ∃ ι' M' a, Grow ι M ι' M' W ∧ VR ι' a v ∧ VL M' (fun _ => False) VI.none (encArg s (toD d)) a ∧ D.is s (toD d) := by
    rintro ⟨cs, rfl⟩ ⟨ss, rfl⟩
    refine ⟨ι', M', .agg avs, g, ?_, ?_, hi⟩
    · simp only [VR]
      exact ⟨cs, rfl, by simpa [Value.cells] using hv⟩
    · simp only [encArg, VL]
      exact ⟨avs, rfl, hr⟩
  cases k with
  | zero => simp [shOf] at hs
  | succ k =>
    simp only [shOf] at hs
    split at hs
    case h_7 => cases hs
    · rename_i hu
      obtain rfl := Option.some.inj hs
      obtain ⟨b, rfl⟩ := okWide_bool hu hval
      exact one rfl fun l hl => by cases hl
    · rename_i i hu
      obtain rfl := Option.some.inj hs
      obtain ⟨b, rfl⟩ := okWide_int hu hval
      exact one rfl fun l hl => by cases hl
    · rename_i hu
      obtain rfl := Option.some.inj hs
      obtain ⟨b, rfl⟩ := okWide_string hu hval
      exact one rfl fun l hl => by cases hl
    · rename_i e hu
      split at hs
      · cases hs
      obtain ⟨se, hse, rfl⟩ := Option.map_eq_some_iff.1 hs
      obtain ⟨a, len, cap, rfl⟩ := okWide_slice hu hval
      exact one rfl fun l hl => by cases hl
    · rename_i fs hu
      obtain ⟨ss, hss, rfl⟩ := Option.map_eq_some_iff.1 hs
      obtain ⟨cs, hcs, _⟩ := okWide_struct hu hval
      exact many ⟨cs, hcs⟩ ⟨_, rfl⟩
    · rename_i n e hu
      obtain ⟨se, hse, rfl⟩ := Option.map_eq_some_iff.1 hs
      simp only [Value.okWide, hu] at hval
      obtain ⟨cs, hcs, _⟩ := hval
      exact many ⟨cs, hcs⟩ ⟨_, rfl⟩

theorem open_allV {H : Type} {enc : TypeId × Value → H} {P : Program} (hl : laidOutB P = true) {W : World} {k base : Nat} :
    ∀ (ts : List TypeId) (ss : List Sh) (vs : List Value) (ds : List (DataW H)) (p : List MemPlace), shOfs P k ts = some ss → (ts.all fun t => decide (t < P.types.size)) = true →
      (∀ (j : Nat) t v, ts[j]? = some t → vs[j]? = some v → Value.okWide P W .any base t v) → DataW.TrodAll enc P W 0 (fun _ => true) true ts vs ds p →
      ∀ ι M, R ι M W → ReadOnly M → ∃ ι' M' as, Grow ι M ι' M' W ∧ VRL ι' as vs ∧ VLL0 M' (encArgs ss (ds.map toD)) as ∧ D.are ss (ds.map toD)
  | [], ss, [], [], p, hs, _, _, _, ι, M, r, ro => by
    simp [shOfs, mapO] at hs
    subst hs
    exact ⟨ι, M, [], .refl r ro, by simp [VRL], by simp [encArgs, VLL0, VLL], by simp [D.are]⟩
  | t :: ts, ss, v :: vs, d :: ds, p, hs, ht, hval, h, ι, M, r, ro => by
    simp only [shOfs, mapO] at hs
    split at hs
    case h_2 => cases hs
    rename_i s sr h1 h2
    obtain rfl := Option.some.inj hs
    simp only [List.all_cons, Bool.and_eq_true, decide_eq_true_eq] at ht
    simp only [DataW.TrodAll] at h
    obtain ⟨p1, p2, g1, g2, _⟩ := h
    obtain ⟨ι1, M1, a, q1, q2, q3, q4⟩ := open_argV hl h1 ht.1 (hval 0 t v (by simp) (by simp)) g1 r ro
    obtain ⟨ι2, M2, as, w1, w2, w3, w4⟩ := open_allV hl ts sr vs ds p2 h2 (by simpa using ht.2) (fun j t v a b => hval (j + 1) t v (by simpa using a) (by simpa using b)) g2 ι1 M1 q1.rel q1.ro
    refine ⟨ι2, M2, a :: as, q1.trans w1, ?_, ?_, ?_⟩
    · simp only [VRL]
      exact ⟨q2.mono w1.le, w2⟩
    · simp only [List.map_cons, encArgs, VLL0, VLL]
      exact ⟨VL.sub (κ := VI.none) (κ' := VI.none) w1.sub w1.next _ _ q3, w3⟩
    · simp only [List.map_cons, D.are]
      exact ⟨q4, w4⟩
  | [], _, _ :: _, _, _, _, _, _, h, _, _, _, _ => by simp [DataW.TrodAll] at h
  | [], _, [], _ :: _, _, _, _, _, h, _, _, _, _ => by simp [DataW.TrodAll] at h
  | _ :: _, _, [], _, _, _, _, _, h, _, _, _, _ => by simp [DataW.TrodAll] at h
  | _ :: _, _, _ :: _, [], _, _, _, _, h, _, _, _, _ => by simp [DataW.TrodAll] at h

/-- What is to be shown: over whatever is read, of this bulk, it tells true. -/
def WLaw (C : ACalls) (f : FuncId) (ss : List Sh) (small : Nat) : Prop :=
  ∀ ds : List D, D.are ss ds → D.bulks ds ≤ small → ∃ out, Spec C f (encArgs ss ds) [] (.bool true) out

theorem VS.empty {M : Heap} (h : M.Ok) : VS (fun _ => False) VI.none [] M :=
  ⟨fun _ _ h => (nomatch h), fun _ _ _ _ _ h => (nomatch h), fun i x h => by simp [wget] at h, fun _ h => (nomatch h), fun _ h => (nomatch h), h, fun _ h => h.elim⟩

theorem OR_none : OR (fun _ => False) VI.none = fun _ => False := by
  funext j
  simp [OR, own, VI.none]

theorem open_callsW {H : Type} {enc : TypeId × Value → H} {P : Program} (hl : laidOutB P = true) {f : FuncId} {C : ACalls} (hg : Sound P f (C f)) {ss : List Sh} {small : Nat} (hp : WLaw C f ss small)
    {W : World} {k base : Nat} {ts : List TypeId} {args : Array Value} {ds : List (DataW H)} {p : List MemPlace} (hs : shOfs P k ts = some ss) (ht : (ts.all fun t => decide (t < P.types.size)) = true)
    (hval : ∀ (j : Nat) t v, ts[j]? = some t → args.toList[j]? = some v → Value.okWide P W .any base t v) (hA : DataW.TrodAll enc P W 0 (fun _ => true) true ts args.toList ds p) (hb : D.bulks (ds.map toD) ≤ small) :
    Calls P f args W fun e W' => e = .returned (.bool true) ∧ Below W.heap.size W W' := by
  obtain ⟨ι, M, as, g1, g2, g3, g4⟩ := open_allV hl ts ss args.toList ds p hs ht hval hA _ _ (R.empty W) (fun b x h => by simp [Heap.empty] at h)
  obtain ⟨out, hH⟩ := hp _ g4 hb
  have hw : M.Ok := fun b hb => (g1.rel.fresh b hb).1
  have g3' : VLL M (OR (fun _ => False) VI.none) VI.none (encArgs ss (ds.map toD)) as := by rw [OR_none]; exact g3
  obtain ⟨a, M', ι1, e1, e2, _, e3⟩ := hH _ VI.none M as (VS.empty hw) g3'
  simp only [VL] at e3
  subst e3
  refine (hg as M _ M' e1 ι W args g1.rel g2).mono ?_
  rintro e w' ⟨ι', v', rfl, hv, htr⟩
  simp only [VR] at hv
  subst hv
  exact ⟨rfl, below_of_tr htr g1.ro⟩

end Go.Proofs.Ytlcjmchhnbdepaa
end

section
/- W, sixteenth part: slices.Clone, slices.Clip. -/
set_option linter.all false
set_option linter.unusedSimpArgs false
namespace Go.Proofs.Ytlcjmchhnbdepaa

def KK : Nat := 2000000000000

/-- The machine, with what is told of some functions and the code of others. -/
abbrev Tab := Sums × (FuncId → Option AFunc)
abbrev wcalls (A : Tab) (d : Nat) : ACalls := bcall A.1 A.2 KK d

/-- What the machine makes and the frame does not see. -/
theorem VS.pushA {R : Nat → Prop} {ι : VI} {H : WH} {M : Heap} (s : VS R ι H M) (y : Blk) : VS R ι H (M.push y) ∧ Stp H.length [] ι H M ι H (M.push y) := by
  have hk : Keeps M (own ι) (M.push y) (own ι) := ⟨Nat.le_succ _, fun b hb ho => ⟨by simp [Heap.push, Nat.ne_of_lt hb], ho⟩⟩
  refine ⟨⟨fun i j h => ?_, s.inj, fun i x hx => ?_, s.solt, s.ice, fun b hb => ?_, fun j h => ⟨by simp only [Heap.push]; have := (s.res j h).1; omega, (s.res j h).2⟩⟩, ⟨hk, .refl _ _, fun _ _ h => h, fun _ _ => rfl, fun _ _ => rfl, fun _ _ _ => rfl, fun _ _ h => h, fun i j _ _ hj _ => ?_, Nat.le_refl _⟩⟩
  · have := s.lt i j h
    simp only [Heap.push]
    omega
  · rcases s.blk i x hx with h | ⟨j, h1, h2, h3⟩
    · exact .inl h
    refine .inr ⟨j, h1, ?_, h3⟩
    have := (s.lt i j h1).2
    simp only [Heap.push, if_neg (show j ≠ M.next by omega)]
    exact h2.mono (hk.or R) (fun _ => .refl _ _) (fun _ h => h)
  · simp only [Heap.push] at hb ⊢
    rw [if_neg (by omega)]
    exact s.okM b (by omega)
  · have := (s.lt i j hj).2
    simp only [Heap.push, if_neg (show j ≠ M.next by omega)]

def cloneF (sz bytes : Nat) (zero : List AV) : AFunc := { nargs := 1, ntmps := 8, code := (.seq (.reg [{ dst := (some 2), op := (.p (.move (.c (.slice none 1 0 0 true)))), guard := none }]) (.seq (.seq (.reg [{ dst := (some 3), op := (.p (.move (.t 0))), guard := none }, { dst := (some 4), op := (.p (.eqN false (.t 3) (.c (.slice none 1 0 0 true)))), guard := none }]) (.cond (.t 4) (.seq (.reg [{ dst := (some 2), op := (.p (.move (.c (.slice none 1 0 0 true)))), guard := none }]) .ret) .skip)) (.seq (.reg [{ dst := (some 5), op := (.k (.buildSlice sz 0 zero [])), guard := none }, { dst := (some 6), op := (.p (.move (.t 0))), guard := none }, { dst := (some 7), op := (.n (.append sz bytes (.t 5) (.t 6))), guard := none }, { dst := (some 2), op := (.p (.move (.t 7))), guard := none }]) .ret))), results := [(.tmp 2)] }

theorem clone_nil (C : ACalls) (K sz bytes : Nat) (zero : List AV) (M : Heap) (sz' len cap : Nat) (ex : Bool) :
    bbody C K (cloneF sz bytes zero) [.slice none sz' len cap ex] M = some (.slice none 1 0 0 true, M) := by
  simp [bbody, cloneF, start, List.replicate, List.replicate_succ, bexec_seq, bexec_reg, bops_cons, bops_nil, Proofs.Ytlcjmchhnbdepaa.look_cons, bput_some, AOp.sub, POp.sub, AX.sub, aop, aP, aEqN, AX.ev, bexec, bResults, bResL, bRes]

theorem clone_some (C : ACalls) (K sz bytes : Nat) (zero : List AV) (M : Heap) (q : Nat × Nat) (len cap : Nat) (ex : Bool) (n : Nat) (cs : List AV) (he : aElems (.slice (some q) sz len cap ex) (M.push (.cells [] false false)) = some (n, cs)) (hn : n * bytes ≤ 70368744177664 ∧ n ≤ 70368744177664) :
    bbody C K (cloneF sz bytes zero) [.slice (some q) sz len cap ex] M = if n = 0 then some (.slice (some (M.next, 0)) sz 0 0 true, M.push (.cells [] false false)) else some (.slice (some (M.next + 1, 0)) sz n n false, (M.push (.cells [] false false)).push (.cells cs false true)) := by
  have pn : ∀ (x : Blk), (M.push x).next = M.next + 1 := fun _ => rfl
  have hap : aAppend sz bytes (.slice (some (M.next, 0)) sz 0 0 true) n cs (M.push (.cells [] false false)) = if n = 0 then some (.slice (some (M.next, 0)) sz 0 0 true, M.push (.cells [] false false)) else some (.slice (some (M.next + 1, 0)) sz n n false, (M.push (.cells [] false false)).push (.cells cs false true)) := by
    unfold aAppend
    by_cases h0 : n = 0
    · subst h0
      simp
    · simp only
      rw [if_neg (by simp), if_neg (by omega), if_pos (by simpa using hn), if_neg h0]
      simp [pn]
  by_cases h0 : n = 0
  · subst h0
    simp only [if_true] at hap ⊢
    simp [bbody, cloneF, start, List.replicate, List.replicate_succ, bexec_seq, bexec_reg, bops_cons, bops_nil, AOp.sub, POp.sub, KOp.sub, NOp.sub, AX.sub, bexec, Proofs.Ytlcjmchhnbdepaa.look_cons, bput_some, aop, aP, aK, aN, aEqN, AX.ev, reps, aFill, Mk.val, aElemSize, he, hap, bResults, bResL, bRes]
  · simp only [if_neg h0] at hap ⊢
    simp [bbody, cloneF, start, List.replicate, List.replicate_succ, bexec_seq, bexec_reg, bops_cons, bops_nil, AOp.sub, POp.sub, KOp.sub, NOp.sub, AX.sub, bexec, Proofs.Ytlcjmchhnbdepaa.look_cons, bput_some, aop, aP, aK, aN, aEqN, AX.ev, reps, aFill, Mk.val, aElemSize, he, hap, bResults, bResL, bRes]

theorem aElems_push {x : AV} {M : Heap} {y : Blk} {n : Nat} {cs : List AV} (ok : M.Ok) (h : aElems x M = some (n, cs)) : aElems x (M.push y) = some (n, cs) := by
  unfold aElems at h ⊢
  split at h
  · exact h
  · split at h
    · rename_i hl
      rw [if_pos hl]
      exact h
    · rename_i hl
      rw [if_neg hl]
      obtain ⟨c, h1, h2⟩ := Option.map_eq_some_iff.1 h
      rw [Option.map_eq_some_iff]
      refine ⟨c, ?_, h2⟩
      rename_i b _ _ _ _ _
      have hb : M.get b ≠ none := fun e => by simp [Heap.read, e] at h1
      have hne : b ≠ M.next := fun e => hb (by rw [e]; exact ok M.next (Nat.le_refl _))
      have : (M.push y).get b = M.get b := by simp only [Heap.push, if_neg hne]
      simp only [Heap.read, this] at h1 ⊢
      exact h1
  · exact h
  · cases h

theorem clone_bok {T : Tab} {d : Nat} {f : FuncId} {sz bytes : Nat} {zero : List AV} (hG : T.1 f = none) (hT : T.2 f = some (cloneF sz bytes zero)) : BOk (wcalls T (d + 1)) f (.clone sz bytes) := by
  intro R ι H M args as dst tr k s hv h
  simp only [wBt] at h
  split at h
  case h_2 => exact h.elim
  rename_i v
  match as, hv with
  | [], hv => simp [VLL] at hv
  | _ :: _ :: _, hv => simp [VLL] at hv
  | [a], hv =>
  simp only [VLL] at hv
  replace hv := hv.1
  have run : wcalls T (d + 1) f [a] M = bbody (wcalls T d) KK (cloneF sz bytes zero) [a] M := by simp only [wcalls, bcall, hG, hT]
  rw [run]
  split at h
  · exact h.elim
  rename_i hstr
  split at h
  case h_2 => exact h.elim
  rename_i n cs S hel
  obtain ⟨_, h⟩ := ovrC_ok h
  obtain ⟨tr', hf, hk⟩ := need_ok h
  have hf' := fitsB_iff hf
  obtain ⟨e1, e2, cs', e3, e4⟩ := wElems_ok s hv hel
  obtain ⟨u1, u2⟩ := s.iced S (wElems_live hel)
  have hlen : (wice H S).length = H.length := wice_len S H
  have hn0 : n = 0 → cs = [] := fun e => by
    subst e
    rw [Nat.zero_mul] at e2
    exact List.eq_nil_of_length_eq_zero e2
  -- which it is
  have hcase : (∃ s' l c x, a = .slice none s' l c x) ∨ ∃ q l c x, a = .slice (some q) sz l c x := by
    cases a with
    | slice p s' l c x =>
      cases p with
      | none => exact .inl ⟨_, _, _, _, rfl⟩
      | some q =>
        simp [aElemSize] at e1
        subst e1
        exact .inr ⟨_, _, _, _, rfl⟩
    | str t =>
      exfalso
      cases v with
      | str t => exact hstr t rfl
      | ptr p => cases p <;> simp [VL] at hv
      | slice p => cases p <;> simp [VL] at hv
      | map p => cases p <;> simp [VL] at hv
      | _ => simp_all [VL, wElems]
    | _ => simp [aElemSize] at e1
  rcases hcase with ⟨s', l, c, x, rfl⟩ | ⟨q, l, c, x, rfl⟩
  · simp only [aElems, Option.some.injEq, Prod.mk.injEq] at e3
    simp only [aElemSize, beq_iff_eq] at e1
    obtain ⟨rfl, rfl⟩ := e3
    subst e1
    obtain rfl := hn0 rfl
    rw [clone_nil]
    obtain ⟨ι', q1, q2, q3⟩ := new_sol u1 sz 1 none (by simp)
    rw [hlen] at q2 q3
    refine ⟨_, M, ι', _, _, [], tr', rfl, q1, ?_, q3, hk⟩
    have := u2.trans q2 (Nat.le_refl _)
    simpa using this
  · obtain ⟨s1, k1⟩ := u1.pushA (.cells [] false false)
    have he' := aElems_push (y := .cells [] false false) s.okM e3
    rw [clone_some (wcalls T d) KK sz bytes zero M q l c x n cs' he' hf']
    by_cases hn : n = 0
    · rw [if_pos hn]
      obtain rfl := hn0 hn
      subst hn
      obtain ⟨ι', q1, q2, q3⟩ := new_sol s1 sz sz (some (M.next, 0)) (fun _ => rfl)
      rw [hlen] at q2 q3 k1
      refine ⟨_, _, ι', _, _, [], tr', rfl, q1, ?_, q3, hk⟩
      have := (u2.trans k1 (Nat.le_refl _)).trans q2 (Nat.le_refl _)
      simpa using this
    · rw [if_neg hn]
      have e4' := VLL.stepN k1 e4
      obtain ⟨ι', q1, q2, q3⟩ := new_acc s1 (cs := cs) (cs' := cs') e4' e2 false true
      rw [hlen] at q2 q3 k1
      refine ⟨_, _, ι', _, _, [], tr', rfl, q1, ?_, q3, hk⟩
      have := (u2.trans k1 (Nat.le_refl _)).trans q2 (Nat.le_refl _)
      simpa using this

/-! ### slices.Clip -/

def clipF (sz : Nat) : AFunc := { nargs := 1, ntmps := 9, code := (.seq (.reg [{ dst := (some 2), op := (.p (.move (.c (.slice none 1 0 0 true)))), guard := none }]) (.seq (.reg [{ dst := (some 3), op := (.p (.move (.t 0))), guard := none }, { dst := (some 4), op := (.p (.move (.t 0))), guard := none }, { dst := (some 5), op := (.p (.len false (.t 4))), guard := none }, { dst := (some 6), op := (.p (.move (.t 0))), guard := none }, { dst := (some 7), op := (.p (.len false (.t 6))), guard := none }, { dst := (some 8), op := (.p (.slice sz (.t 3) none (some (.t 5)) (some (.t 7)))), guard := none }, { dst := (some 2), op := (.p (.move (.t 8))), guard := none }]) .ret)), results := [(.tmp 2)] }

theorem clip_run (C : ACalls) (K sz : Nat) (M : Heap) (p : Option (Nat × Nat)) (s' n cap : Nat) (ex : Bool) (hn : n ≤ cap) (hp : p ≠ none → s' = sz) :
    bbody C K (clipF sz) [.slice p s' n cap ex] M = some (.slice p sz n n true, M) := by
  have hs : aSlice sz p s' n cap ex [] none (some (.c (.int .i64 n))) (some (.c (.int .i64 n))) = some (.slice p sz n n true) := by
    unfold aSlice
    rw [if_pos (by cases p with
      | none => exact .inl rfl
      | some p => exact .inr (hp (by simp)))]
    have h1 : (0 : Int) ≤ n := by omega
    have h2 : (n : Int) ≤ cap := by omega
    have h3 : aShift p 0 = p := by cases p <;> rfl
    simp [aBoundO, aBound, AX.ev, h1, h2, h3]
  simp [bbody, clipF, start, List.replicate, List.replicate_succ, bexec_seq, bexec_reg, bops_cons, bops_nil, Proofs.Ytlcjmchhnbdepaa.look_cons, bput_some, AOp.sub, POp.sub, AX.sub, AX.subO, aop, aP, AX.ev, bexec, hs, bResults, bResL, bRes]

theorem clip_bok {T : Tab} {d : Nat} {f : FuncId} {sz : Nat} (hG : T.1 f = none) (hT : T.2 f = some (clipF sz)) : BOk (wcalls T (d + 1)) f (.clip sz) := by
  intro R ι H M args as dst tr k s hv h
  have run : ∀ a, wcalls T (d + 1) f [a] M = bbody (wcalls T d) KK (clipF sz) [a] M := fun a => by simp only [wcalls, bcall, hG, hT]
  simp only [wBt] at h
  split at h
  · match as, hv with
    | [], hv => simp [VLL] at hv
    | _ :: _ :: _, hv => simp [VLL] at hv
    | [a], hv =>
    simp only [VLL, VL] at hv
    obtain ⟨_, s', rfl⟩ := hv.1
    rw [run, clip_run (wcalls T d) KK sz M none _ 0 0 true (Nat.le_refl _) (by simp)]
    exact ⟨_, M, ι, _, H, [], tr, rfl, s, .refl _ _ _ _ _ (Nat.le_refl _), by simp [VL], h⟩
  · match as, hv with
    | [], hv => simp [VLL] at hv
    | _ :: _ :: _, hv => simp [VLL] at hv
    | [a], hv =>
    split at h
    case h_2 => exact h.elim
    rename_i e
    obtain rfl := Nat.eq_of_beq_eq_true e
    simp only [VLL, VL] at hv
    rcases hv.1 with ⟨rfl, rfl, s', rfl⟩ | ⟨b, o, cap, ex', rfl, h1, h2, h3, h4⟩
    · rw [run, clip_run (wcalls T d) KK _ M none _ 0 0 true (Nat.le_refl _) (by simp)]
      exact ⟨_, M, ι, _, H, [], tr, rfl, s, .refl _ _ _ _ _ (Nat.le_refl _), by simp [VL], h⟩
    · rw [run, clip_run (wcalls T d) KK _ M (some (b, o)) _ _ cap ex' h1 (fun _ => rfl)]
      refine ⟨_, M, ι, _, H, [], tr, rfl, s, .refl _ _ _ _ _ (Nat.le_refl _), ?_, h⟩
      simp only [VL]
      exact .inr ⟨b, o, _, true, rfl, Nat.le_refl _, fun _ => ⟨rfl, rfl⟩, h3, h4⟩
  · match as, hv with
    | [], hv => simp [VLL] at hv
    | _ :: _ :: _, hv => simp [VLL] at hv
    | [a], hv =>
    split at h
    case h_2 => exact h.elim
    rename_i e
    obtain rfl := Nat.eq_of_beq_eq_true e
    simp only [VLL, VL] at hv
    obtain ⟨p, s', cap, ex, rfl, g1, g2, g3, m, L, g4, g5, g6, g7⟩ := hv.1
    rw [run, clip_run (wcalls T d) KK _ M p s' _ cap ex g1 g3]
    refine ⟨_, M, ι, _, H, [], tr, rfl, s, .refl _ _ _ _ _ (Nat.le_refl _), ?_, h⟩
    simp only [VL]
    refine ⟨p, _, _, true, rfl, Nat.le_refl _, fun hp => ⟨?_, rfl⟩, fun _ => rfl, m, L, g4, g5, g6, ?_⟩
    · have := (g2 hp).1
      omega
    · rcases g7 with ⟨j, q1, q2⟩ | ⟨q1, q2, q3, q4, q5⟩
      · refine .inl ⟨j, q1, ?_⟩
        rcases q2 with ⟨q2, q3⟩ | ⟨q2, q3, q4⟩
        · exact .inl ⟨q2, Nat.le_trans (Nat.add_le_add_left (Nat.mul_le_mul_right _ g1) _) q3⟩
        · exact .inr ⟨q2, q2, rfl⟩
      · exact .inr ⟨q1, q2, q2, rfl, q5⟩
  · exact h.elim

/-! ### slices.Grow, of nothing -/

def growF (sz bytes : Nat) (zero : List AV) : AFunc := { nargs := 2, ntmps := 27, code := (.seq (.reg [{ dst := (some 4), op := (.p (.move (.c (.slice none 1 0 0 true)))), guard := none }]) (.seq (.seq (.reg [{ dst := (some 5), op := (.p (.move (.t 1))), guard := none }, { dst := (some 6), op := (.p (.bin .lss (.t 5) (.c (.int .i64 0)))), guard := none }]) (.cond (.t 6) (.reg [{ dst := (some 7), op := (.n .fail), guard := none }, { dst := none, op := (.n .fail), guard := none }]) .skip)) (.seq (.seq (.reg [{ dst := (some 8), op := (.p (.move (.t 1))), guard := none }, { dst := (some 9), op := (.p (.move (.t 0))), guard := none }, { dst := (some 10), op := (.p (.cap (.t 9))), guard := none }, { dst := (some 11), op := (.p (.move (.t 0))), guard := none }, { dst := (some 12), op := (.p (.len false (.t 11))), guard := none }, { dst := (some 13), op := (.p (.bin .sub (.t 10) (.t 12))), guard := none }, { dst := (some 14), op := (.p (.bin .sub (.t 8) (.t 13))), guard := none }, { dst := (some 1), op := (.p (.move (.t 14))), guard := none }]) (.seq (.reg [{ dst := (some 15), op := (.p (.move (.t 1))), guard := none }, { dst := (some 16), op := (.p (.bin .gtr (.t 15) (.c (.int .i64 0)))), guard := none }]) (.cond (.t 16) (.reg [{ dst := (some 17), op := (.p (.move (.t 0))), guard := none }, { dst := (some 18), op := (.p (.move (.t 0))), guard := none }, { dst := (some 19), op := (.p (.cap (.t 18))), guard := none }, { dst := (some 20), op := (.p (.slice sz (.t 17) none (some (.t 19)) none)), guard := none }, { dst := (some 21), op := (.p (.move (.t 1))), guard := none }, { dst := (some 22), op := (.n (.appendZ sz bytes zero (.t 20) (.t 21))), guard := none }, { dst := (some 23), op := (.p (.move (.t 0))), guard := none }, { dst := (some 24), op := (.p (.len false (.t 23))), guard := none }, { dst := (some 25), op := (.p (.slice sz (.t 22) none (some (.t 24)) none)), guard := none }, { dst := (some 0), op := (.p (.move (.t 25))), guard := none }]) .skip))) (.seq (.reg [{ dst := (some 26), op := (.p (.move (.t 0))), guard := none }, { dst := (some 4), op := (.p (.move (.t 26))), guard := none }]) .ret)))), results := [(.tmp 4)] }

theorem grow_run (C : ACalls) (K sz bytes : Nat) (zero : List AV) (M : Heap) (s' : Nat) (n : Int) (h0 : 0 ≤ n) (h1 : n ≤ 70368744177664) (h2 : bytes * n.toNat ≤ 281474976710656) (h3 : n.toNat * bytes ≤ 70368744177664) :
    bbody C K (growF sz bytes zero) [.slice none s' 0 0 true, .int .i64 n] M = if n ≤ 0 then some (.slice none s' 0 0 true, M) else some (.slice (some (M.next, 0)) sz 0 n.toNat false, M.push (.cells (reps n.toNat zero) false true)) := by
  have e1 : IntKind.i64.wrap (n - IntKind.i64.wrap (0 - 0)) = n := by
    simp [IntKind.wrap, IntKind.signed, IntKind.bits]
    omega
  have e1' : IntKind.i64.wrap (n - 0) = n := by
    simp [IntKind.wrap, IntKind.signed, IntKind.bits]
    omega
  have ew : IntKind.i64.wrap n = n := by simpa using e1'
  have e0 : IntKind.i64.wrap 0 = 0 := rfl
  have e2 : ¬ n < 0 := by omega
  have e3 : ∀ m : Heap, aAppend sz bytes (.slice none sz 0 0 true) n.toNat (reps n.toNat zero) m = if n ≤ 0 then some (.slice none sz 0 0 true, m) else some (.slice (some (m.next, 0)) sz n.toNat n.toNat false, m.push (.cells (reps n.toNat zero) false true)) := fun m => by
    unfold aAppend
    by_cases h : n ≤ 0
    · have : n = 0 := by omega
      subst this
      simp
    · simp only
      rw [if_neg (by simp), if_neg (by omega), if_pos ⟨by simpa using h3, by omega⟩, if_neg h]
      simp
  by_cases h : n ≤ 0
  · have : n = 0 := by omega
    subst this
    simp [bbody, growF, start, List.replicate, List.replicate_succ, bexec_seq, bexec_reg, bops_cons, bops_nil, AOp.sub, POp.sub, AX.sub, AX.subO, bexec, Proofs.Ytlcjmchhnbdepaa.look_cons, bput_some, aop, aP, AX.ev, aBin, aInts, bResults, bResL, bRes, IntKind.wrap, IntKind.signed, IntKind.bits]
  · have e4 : n > 0 := by omega
    have e5 : decide (n > 0) = true := by simpa using e4
    have e6 : 0 < n ∧ n ≤ 70368744177664 ∧ bytes * n.toNat ≤ 281474976710656 := ⟨by omega, h1, h2⟩
    have s1 : aSlice sz none s' 0 0 true [] none (some (.c (.int .i64 0))) none = some (.slice none sz 0 0 true) := by
      simp [aSlice, aBoundO, aBound, AX.ev, aShift]
    have s2 : aSlice sz (some (M.next, 0)) sz n.toNat n.toNat false [] none (some (.c (.int .i64 0))) none = some (.slice (some (M.next, 0)) sz 0 n.toNat false) := by
      simp [aSlice, aBoundO, aBound, AX.ev, aShift]
      rw [if_pos (by omega)]
      rfl
    have e3' := e3 M
    rw [if_neg h] at e3'
    rw [if_neg h]
    simp [bbody, growF, start, List.replicate, List.replicate_succ, bexec_seq, bexec_reg, bops_cons, bops_nil, AOp.sub, POp.sub, NOp.sub, AX.sub, AX.subO, bexec, Proofs.Ytlcjmchhnbdepaa.look_cons, bput_some, aop, aP, aN, AX.ev, aBin, aInts, bResults, bResL, bRes, e0, ew, h, e2, e4, h1, h2, s1, s2, e3']

theorem new_room {R : Nat → Prop} {ι : VI} {H : WH} {M : Heap} (s : VS R ι H M) (t : List AV) (sz n : Nat) (hn : n * sz ≤ t.length) :
    ∃ ι', VS R ι' (H ++ [some (.cells [] false true)]) (M.push (.cells t false true)) ∧ Stp H.length [] ι H M ι' (H ++ [some (.cells [] false true)]) (M.push (.cells t false true)) ∧
      VL (M.push (.cells t false true)) (OR R ι') ι' (.acc H.length 0 sz 0 true) (.slice (some (M.next, 0)) sz 0 n false) := by
  obtain ⟨h1, h2⟩ := s.push (x := .cells [] false true) (y := .cells t false true) (d := (0, t.length)) ⟨[], t, false, true, t.length, by simp, fun _ => rfl, rfl, by simp, by simp [VLL], fun h => by cases h⟩
  refine ⟨_, h1, h2, ?_⟩
  simp only [VL]
  exact ⟨_, _, _, _, rfl, by omega, (fun h => by cases h), fun _ => rfl, 0, t.length, by simp [VI.add, setAt], by omega, fun _ => ⟨trivial, by omega⟩, .inl ⟨M.next, by simp [VI.add, setAt], .inl ⟨rfl, by omega⟩⟩⟩

theorem grow_bok {T : Tab} {d : Nat} {f : FuncId} {sz bytes : Nat} {zero : List AV} (hz : zero.length = sz) (hG : T.1 f = none) (hT : T.2 f = some (growF sz bytes zero)) : BOk (wcalls T (d + 1)) f (.grow sz bytes) := by
  intro R ι H M args as dst tr k s hv h
  simp only [wBt] at h
  split at h
  case h_2 => exact h.elim
  rename_i s0 n
  match as, hv with
  | [], hv => simp [VLL] at hv
  | [_], hv => simp [VLL] at hv
  | _ :: _ :: _ :: _, hv => simp [VLL] at hv
  | [a, b], hv =>
  simp only [VLL, VL] at hv
  obtain ⟨⟨_, s', rfl⟩, rfl, _⟩ := hv
  have run : wcalls T (d + 1) f [.slice none s' 0 0 true, .int .i64 n] M = bbody (wcalls T d) KK (growF sz bytes zero) [.slice none s' 0 0 true, .int .i64 n] M := by simp only [wcalls, bcall, hG, hT]
  obtain ⟨tr, ⟨g0, g1, g2, g3⟩, hk⟩ := need_ok h
  rw [run, grow_run _ _ _ _ _ _ _ _ g0 g1 g2 g3]
  by_cases h0 : n ≤ 0
  · rw [if_pos h0]
    obtain ⟨ι', q1, q2, q3⟩ := new_sol s sz s' none (by simp)
    exact ⟨_, M, ι', _, _, [], tr, rfl, q1, q2, q3, hk⟩
  · rw [if_neg h0]
    obtain ⟨ι', q1, q2, q3⟩ := new_room s (reps n.toNat zero) sz n.toNat (by rw [reps_len, hz]; exact Nat.le_refl _)
    exact ⟨_, _, ι', _, _, [], tr, rfl, q1, q2, q3, hk⟩

/-- A function without parameters that the machine runs by itself: it tells true, wherever it is called. -/
theorem alone_spec {A : Tab} {n : FuncId} {g : List AV → Heap → Option (AV × Heap)} (h : A.1 n = some (alone g)) (hr : tellsTrue (g [] Heap.empty) = true) (d : Nat) : Spec (wcalls A (d + 1)) n [] [] (.bool true) [] := by
  intro R ι M as hvs has
  obtain ⟨M0, hM0⟩ := tellsTrue_iff hr
  have e : as = [] := by
    cases as with
    | nil => rfl
    | cons a r => simp [VLL] at has
  subst e
  refine ⟨.bool true, M, ι, ?_, hvs, Stp.refl _ _ _ _ _ (Nat.le_refl _), by simp [VL]⟩
  show bcall A.1 A.2 KK (d + 1) n [] M = _
  simp only [bcall, h, alone, hM0]

end Go.Proofs.Ytlcjmchhnbdepaa
end

section
/- W, seventeenth part: words of printed texts. -/
set_option linter.all false
set_option linter.unusedSimpArgs false
namespace Go.Proofs.Ytlcjmchhnbdepaa

/-! ### Operations in few signs -/

abbrev oP (d : Nat) (o : POp) : AOper := { dst := some d, op := .p o, guard := none }
abbrev oV (d s : Nat) : AOper := { dst := some d, op := .p (.move (.t s)), guard := none }
abbrev oC (d : Nat) (v : AV) : AOper := { dst := some d, op := .p (.move (.c v)), guard := none }
abbrev oL (d : Nat) (o : LOp) : AOper := { dst := some d, op := .l o, guard := none }
abbrev oK (d : Nat) (o : KOp) : AOper := { dst := some d, op := .k o, guard := none }
abbrev oN (d : Nat) (o : NOp) : AOper := { dst := some d, op := .n o, guard := none }
abbrev oZ (o : NOp) : AOper := { dst := none, op := .n o, guard := none }
abbrev oG (t : Nat) (b : Bool) (o : AOper) : AOper := { dst := o.dst, op := o.op, guard := some (t, b) }
abbrev oD (o : AOper) (lo ix : Nat) : DOper := { o := o, lo := lo, ix := ix }
abbrev iC (n : Int) : AX := .c (.int .i64 n)

/-! ### Data -/

def byteC (b : UInt8) : AV := .int .u8 b.toNat
def lB (s : List UInt8) : AV := .list 1 s.length (s.map byteC) false
def lI (l : List Int) : AV := .list 1 l.length (l.map (AV.int .i64)) false
def lS (l : List (List UInt8)) : AV := .list 1 l.length (l.map AV.str) false

def u8w (x : Int) : UInt8 := UInt8.ofNat (IntKind.u8.wrap x).toNat
theorem u8w_eq (x : Int) : byteC (u8w x) = .int .u8 (IntKind.u8.wrap x) := by
  have h : 0 ≤ IntKind.u8.wrap x ∧ IntKind.u8.wrap x < 256 := by
    simp only [IntKind.wrap, IntKind.signed, IntKind.bits]
    constructor
    · simp; omega
    · simp; omega
  simp only [byteC, u8w, AV.int.injEq, true_and, UInt8.toNat_ofNat']
  omega

def getI {α : Type} (L : List α) (i : Int) : Option α := if 0 ≤ i then L[i.toNat]? else none
def slI {α : Type} (L : List α) (lo hi : Int) : Option (List α) := if 0 ≤ lo ∧ lo ≤ hi ∧ hi ≤ (L.length : Int) then some ((L.drop lo.toNat).take (hi.toNat - lo.toNat)) else none
def andI (k : IntKind) (x y : Int) : Int := k.wrap (BitVec.ofInt k.bits x &&& BitVec.ofInt k.bits y).toNat
def orI (k : IntKind) (x y : Int) : Int := k.wrap (BitVec.ofInt k.bits x ||| BitVec.ofInt k.bits y).toNat
def xorI (k : IntKind) (x y : Int) : Int := k.wrap (BitVec.ofInt k.bits x ^^^ BitVec.ofInt k.bits y).toNat
def andNotI (k : IntKind) (x y : Int) : Int := k.wrap (BitVec.ofInt k.bits x &&& ~~~BitVec.ofInt k.bits y).toNat
def shlV (k : IntKind) (x y : Int) : Int := k.wrap (x * 2 ^ (min y.toNat k.bits))
def shrV (k : IntKind) (x y : Int) : Int := x.fdiv (2 ^ (min y.toNat k.bits))
def quoI (k : IntKind) (x y : Int) : Option Int := if y = 0 then none else some (k.wrap (x.tdiv y))
def remI (k : IntKind) (x y : Int) : Option Int := if y = 0 then none else some (x.tmod y)
def shlI (k : IntKind) (x y : Int) : Option Int := if y < 0 then none else some (k.wrap (x * 2 ^ (min y.toNat k.bits)))
def shrI (k : IntKind) (x y : Int) : Option Int := if y < 0 then none else some (x.fdiv (2 ^ (min y.toNat k.bits)))
def catS (x y : List UInt8) : Option (List UInt8) := if x.length + y.length ≤ 4611686018427387904 then some (x ++ y) else none

/-! ### Steps of proofs -/

theorem bget {α β : Type} [Inhabited α] {e : Option α} {x : α} {k : α → Option β} {r : β} (hx : x = e.getD default) (h : e.bind k = some r) : e = some x ∧ k x = some r := by
  cases e with
  | none => cases h
  | some y =>
    simp only [Option.getD_some] at hx
    subst hx
    exact ⟨rfl, h⟩
theorem cond_t {β : Type} {b : Bool} {x y : Option β} {r : β} (hb : b = true) (h : cond b x y = some r) : x = some r := by subst hb; exact h
theorem cond_f {β : Type} {b : Bool} {x y : Option β} {r : β} (hb : b = false) (h : cond b x y = some r) : y = some r := by subst hb; exact h
theorem gd_some {β : Type} {b : Bool} {x : Option β} {r : β} (h : gd b x = some r) : b = true ∧ x = some r := by
  cases b with
  | true => exact ⟨rfl, h⟩
  | false => cases h

/-! ### Rows of cells -/

structure Row {α : Type} (F : List α → List AV) (e : α → List AV) (sz : Nat) : Prop where
  nil : F [] = []
  cons : ∀ x l, F (x :: l) = e x ++ F l
  len : ∀ x, (e x).length = sz
/-! ### Maps -/

def mE {K V : Type} (ck : K → AV) (cv : V → AV) (l : List (K × V)) : List (AV × AV) := l.map fun p => (ck p.1, cv p.2)
def KeyOk {K : Type} [DecidableEq K] (kd : Kd) (ck : K → AV) : Prop := ∀ a b, aEqK kd (ck a) (ck b) = some (decide (a = b))
theorem keyI : KeyOk .i (AV.int .i64) := fun a b => by simp [aEqK, Bool.beq_eq_decide_eq]
theorem keyS : KeyOk .s AV.str := fun a b => by
  simp only [aEqK, Option.some.injEq]
  rw [Bool.eq_iff_iff]
  simp
def mGet {K V : Type} [DecidableEq K] : List (K × V) → K → Option V
  | [], _ => none
  | p :: r, k => if k = p.1 then some p.2 else mGet r k
def mSet {K V : Type} [DecidableEq K] : List (K × V) → K → V → List (K × V)
  | [], k, v => [(k, v)]
  | p :: r, k, v => if k = p.1 then (k, v) :: r else p :: mSet r k v
def mDel {K V : Type} [DecidableEq K] : List (K × V) → K → List (K × V)
  | [], _ => []
  | p :: r, k => if k = p.1 then r else p :: mDel r k
section
variable {K V : Type} [DecidableEq K] {kd : Kd} {ck : K → AV} (hk : KeyOk kd ck) (cv : V → AV)
include hk
theorem mFind : ∀ (l : List (K × V)) (k : K) (i : Nat), (mGet l k = none ∧ aFind kd (ck k) (mE ck cv l) i = some none ∧ (∀ v, mE ck cv (mSet l k v) = mE ck cv l ++ [(ck k, cv v)]) ∧ mDel l k = l) ∨
    ∃ n x, mGet l k = some x ∧ aFind kd (ck k) (mE ck cv l) i = some (some (i + n, cv x)) ∧ (∀ v, mE ck cv (mSet l k v) = (mE ck cv l).set n (ck k, cv v)) ∧ mE ck cv (mDel l k) = (mE ck cv l).eraseIdx n
  | [], k, i => .inl ⟨rfl, rfl, fun v => rfl, rfl⟩
  | p :: r, k, i => by
    have e : aFind kd (ck k) (mE ck cv (p :: r)) i = match some (decide (k = p.1)) with
      | some true => some (some (i, cv p.2))
      | some false => aFind kd (ck k) (mE ck cv r) (i + 1)
      | none => none := by
      rw [← hk k p.1]
      rfl
    by_cases h : k = p.1
    · refine .inr ⟨0, p.2, by simp [mGet, h], by rw [e]; simp [h], fun v => by simp [mSet, h, mE], by simp [mDel, h, mE]⟩
    · rcases mFind r k (i + 1) with ⟨h1, h2, h3, h4⟩ | ⟨n, x, h1, h2, h3, h4⟩
      · refine .inl ⟨by simp [mGet, h, h1], by rw [e]; simp [h, h2], fun v => ?_, by simp [mDel, h, h4]⟩
        have := h3 v
        simp only [mSet, if_neg h]
        simp only [mE, List.map_cons, List.cons_append] at this ⊢
        rw [this]
      · refine .inr ⟨n + 1, x, by simp [mGet, h, h1], by rw [e]; simp only [h, decide_false, h2]; congr 3; omega, fun v => ?_, ?_⟩
        · have := h3 v
          simp only [mSet, if_neg h]
          simp only [mE, List.map_cons, List.set_cons_succ] at this ⊢
          rw [this]
        · simp only [mDel, if_neg h]
          simp only [mE, List.map_cons, List.eraseIdx_cons_succ] at h4 ⊢
          rw [h4]
theorem mg_f {l : List (K × V)} {k : K} {z x : V} (h : some ((mGet l k).getD z) = some x) : mapAt kd false (cv z) (ck k) (mE ck cv l) = some (cv x) := by
  obtain rfl := Option.some.inj h
  unfold mapAt
  rcases mFind hk cv l k 0 with ⟨h1, h2, _⟩ | ⟨n, y, h1, h2, _⟩
  · rw [h2, h1]; rfl
  · rw [h2, h1]; rfl
theorem mg_t {l : List (K × V)} {k : K} {z : V} {x : V × Bool} (h : some ((mGet l k).getD z, (mGet l k).isSome) = some x) : mapAt kd true (cv z) (ck k) (mE ck cv l) = some (.tuple [cv x.1, .bool x.2]) := by
  obtain rfl := Option.some.inj h
  unfold mapAt
  rcases mFind hk cv l k 0 with ⟨h1, h2, _⟩ | ⟨n, y, h1, h2, _⟩
  · rw [h2, h1]; rfl
  · rw [h2, h1]; rfl
theorem mu_ok (l : List (K × V)) (k : K) (v : V) : mapUp kd (ck k) (cv v) (mE ck cv l) = some (mE ck cv (mSet l k v)) := by
  unfold mapUp
  rcases mFind hk cv l k 0 with ⟨_, h2, h3, _⟩ | ⟨n, y, _, h2, h3, _⟩
  · rw [h2, h3]; rfl
  · rw [h2, h3, Nat.zero_add]; rfl
theorem md_ok (l : List (K × V)) (k : K) : mapDl kd (ck k) (mE ck cv l) = some (mE ck cv (mDel l k)) := by
  unfold mapDl
  rcases mFind hk cv l k 0 with ⟨_, h2, _, h4⟩ | ⟨n, y, _, h2, _, h4⟩
  · rw [h2, h4]; rfl
  · rw [h2, h4, Nat.zero_add]; rfl
end
theorem ml_ok {K V : Type} (ck : K → AV) (cv : V → AV) (l : List (K × V)) : @Eq (Option AV) (some (.int .i64 (mE ck cv l).length)) (some (.int .i64 l.length)) := by
  unfold mE
  rw [List.length_map]
theorem cleanL_app : ∀ (a b : List AV), cleanL a = true → cleanL b = true → cleanL (a ++ b) = true
  | [], _, _, h => h
  | v :: r, b, h, k => by
    simp only [cleanL] at h
    split at h
    case h_2 => cases h
    rename_i hv
    simp only [List.cons_append, cleanL, hv]
    exact cleanL_app r b h k
theorem clean_row {α : Type} {F : List α → List AV} {e : α → List AV} {sz : Nat} (hF : Row F e sz) (he : ∀ x, cleanL (e x) = true) : ∀ l, cleanL (F l) = true
  | [] => by rw [hF.nil]; rfl
  | x :: l => by rw [hF.cons]; exact cleanL_app _ _ (he x) (clean_row hF he l)
theorem row_map {α : Type} (c : α → AV) : Row (fun l => l.map c) (fun x => [c x]) 1 := ⟨rfl, fun _ _ => rfl, fun _ => rfl⟩
theorem row_flat {α : Type} {e : α → List AV} {sz : Nat} (h : ∀ x, (e x).length = sz) : Row (fun l => l.flatMap e) e sz := ⟨rfl, fun _ _ => rfl, h⟩

section
variable {α : Type} {F : List α → List AV} {e : α → List AV} {sz : Nat} (hF : Row F e sz)
include hF
theorem Row.app : ∀ a b : List α, F (a ++ b) = F a ++ F b
  | [], b => by simp [hF.nil]
  | x :: a, b => by rw [List.cons_append, hF.cons, hF.cons, Row.app a b, List.append_assoc]
theorem Row.length : ∀ l : List α, (F l).length = l.length * sz
  | [] => by simp [hF.nil]
  | x :: l => by rw [hF.cons, List.length_append, hF.len, Row.length l, List.length_cons, Nat.succ_mul, Nat.add_comm]
theorem Row.drop : ∀ (l : List α) (n : Nat), (F l).drop (n * sz) = F (l.drop n)
  | l, 0 => by simp
  | [], n + 1 => by simp [hF.nil]
  | x :: l, n + 1 => by
    rw [hF.cons, Nat.succ_mul, Nat.add_comm, List.drop_succ_cons, ← Row.drop l n, ← List.drop_drop, List.drop_left' (hF.len x)]
theorem Row.take : ∀ (l : List α) (n : Nat), (F l).take (n * sz) = F (l.take n)
  | l, 0 => by simp [hF.nil]
  | [], n + 1 => by simp [hF.nil]
  | x :: l, n + 1 => by
    rw [hF.cons, Nat.succ_mul, Nat.add_comm, List.take_succ_cons, hF.cons, ← Row.take l n, List.take_append, hF.len, List.take_of_length_le (by rw [hF.len]; omega)]
    congr 2
    omega
theorem Row.get {l : List α} {i : Nat} {x : α} (h : l[i]? = some x) : (F l).drop (i * sz) = e x ++ F (l.drop (i + 1)) := by
  rw [hF.drop]
  obtain ⟨h1, h2⟩ := List.getElem?_eq_some_iff.1 h
  rw [List.drop_eq_getElem_cons h1, h2, hF.cons]
theorem Row.snoc (l : List α) (x : α) : F l ++ e x = F (l ++ [x]) := by rw [hF.app, hF.cons, hF.nil, List.append_nil]

theorem getI_some {l : List α} {i : Int} {x : α} (h : getI l i = some x) : 0 ≤ i ∧ i < (l.length : Int) ∧ l[i.toNat]? = some x := by
  unfold getI at h
  split at h
  case isFalse => cases h
  rename_i h0
  have := (List.getElem?_eq_some_iff.1 h).1
  exact ⟨h0, by omega, h⟩
theorem slI_some {l r : List α} {a b : Int} (h : slI l a b = some r) : 0 ≤ a ∧ a ≤ b ∧ b ≤ (l.length : Int) ∧ r = (l.drop a.toNat).take (b.toNat - a.toNat) ∧ r.length = b.toNat - a.toNat := by
  unfold slI at h
  split at h
  case isFalse => cases h
  rename_i h0
  obtain rfl := Option.some.inj h
  refine ⟨h0.1, h0.2.1, h0.2.2, rfl, ?_⟩
  simp only [List.length_take, List.length_drop]
  omega

/-- An element of a list. -/
theorem wP_idx {l : List α} {i : Int} {x : α} {k : IntKind} {ex : Bool} (h : getI l i = some x) : wP (.idxSlice sz (.c (.list sz l.length (F l) ex)) (.c (.int k i))) = some (.elem (e x ++ F (l.drop (i.toNat + 1)))) := by
  obtain ⟨h1, h2, h3⟩ := getI_some hF h
  simp only [wP, AX.ev]
  rw [if_pos ⟨h1, h2, trivial⟩, hF.get h3]
/-- An element of one's own. -/
theorem wP_idxA {l : List α} {i : Int} {x : α} {k : IntKind} {b : Nat} {w : Bool} (h : getI l i = some x) : wP (.idxSlice sz (.c (.acc b 0 sz l.length w)) (.c (.int k i))) = some (.ptr (some (b, 0 + i.toNat * sz))) := by
  obtain ⟨h1, h2, h3⟩ := getI_some hF h
  simp only [wP, AX.ev]
  rw [if_pos ⟨h1, h2, trivial⟩]

theorem aBoundN {k : IntKind} {n : Nat} {i : Int} (h1 : 0 ≤ i) (h2 : i ≤ (n : Int)) : aBound (.int k i) n = some i.toNat := by
  simp only [aBound]
  rw [if_pos ⟨h1, h2⟩]

theorem wP_sl_lh {l r : List α} {a b : Int} {k k' : IntKind} {ex : Bool} (h : slI l a b = some r) : wP (.slice sz (.c (.list sz l.length (F l) ex)) (some (.c (.int k a))) (some (.c (.int k' b))) none) = some (.list sz r.length (F r) false) := by
  obtain ⟨h1, h2, h3, h4, h5⟩ := slI_some hF h
  simp only [wP, AX.ev, vSlice, if_true, aBoundO]
  rw [aBoundN hF (by omega) h3, Option.bind_some, aBoundN hF h1 (by omega), Option.bind_some, hF.drop, hF.take, ← h4, h5]
theorem wP_sl_l {l r : List α} {a : Int} {k : IntKind} {ex : Bool} (h : slI l a l.length = some r) : wP (.slice sz (.c (.list sz l.length (F l) ex)) (some (.c (.int k a))) none none) = some (.list sz r.length (F r) false) := by
  obtain ⟨h1, h2, h3, h4, h5⟩ := slI_some hF h
  simp only [wP, AX.ev, vSlice, if_true, aBoundO, Option.bind_some]
  rw [aBoundN hF h1 h2, Option.bind_some, hF.drop, hF.take]
  simp only [Int.toNat_natCast] at h4 h5
  rw [← h4, h5]
theorem wP_sl_h {l r : List α} {b : Int} {k : IntKind} {ex : Bool} (h : slI l 0 b = some r) : wP (.slice sz (.c (.list sz l.length (F l) ex)) none (some (.c (.int k b))) none) = some (.list sz r.length (F r) false) := by
  obtain ⟨h1, h2, h3, h4, h5⟩ := slI_some hF h
  simp only [wP, AX.ev, vSlice, if_true, aBoundO]
  rw [aBoundN hF h2 h3, Option.bind_some, Option.bind_some]
  simp only [Int.toNat_zero, Nat.sub_zero, List.drop_zero, Nat.zero_mul] at h4 h5 ⊢
  rw [hF.take, ← h4, h5]
end

theorem map_snoc {α : Type} (c : α → AV) (l : List α) (x : α) : l.map c ++ [c x] = (l ++ [x]).map c := by simp
theorem snoc_len {α : Type} (l : List α) (x : α) : l.length + 1 = (l ++ [x]).length := by simp
theorem app_len {α : Type} (l r : List α) : l.length + r.length = (l ++ r).length := by simp

theorem toBytes_map : ∀ s : List UInt8, toBytes (s.map byteC) = some s
  | [] => rfl
  | b :: s => by
    simp only [List.map_cons, byteC, toBytes]
    rw [show (s.map byteC) = s.map byteC from rfl, toBytes_map s]
    simp

theorem wP_quo {k : IntKind} {x y q : Int} (h : quoI k x y = some q) : aInts .quo k x y = some (.int k q) := by
  unfold quoI at h
  simp only [aInts]
  split at h
  · cases h
  · rename_i e
    rw [if_neg e]
    obtain rfl := Option.some.inj h
    rfl
theorem wP_rem {k : IntKind} {x y q : Int} (h : remI k x y = some q) : aInts .rem k x y = some (.int k q) := by
  unfold remI at h
  simp only [aInts]
  split at h
  · cases h
  · rename_i e
    rw [if_neg e]
    obtain rfl := Option.some.inj h
    rfl
theorem wP_cat {x y s : List UInt8} (h : catS x y = some s) : aStrs .add x y = some (.str s) := by
  unfold catS at h
  simp only [aStrs]
  split at h
  · rename_i e
    rw [if_pos e]
    obtain rfl := Option.some.inj h
    rfl
  · cases h
theorem wP_slS {s r : List UInt8} {a b : Int} {k k' : IntKind} (h : slI s a b = some r) : wP (.sliceStr (.c (.str s)) (some (.c (.int k a))) (some (.c (.int k' b)))) = some (.str r) := by
  obtain ⟨h1, h2, h3, h4, h5⟩ := slI_some (row_map byteC) h
  simp only [wP, aP, AX.ev, aSliceStr, aBoundO]
  rw [aBoundN (row_map byteC) (by omega) h3, Option.bind_some, aBoundN (row_map byteC) h1 (by omega), Option.bind_some, ← h4]
theorem wP_slS_h {s r : List UInt8} {b : Int} {k' : IntKind} (h : slI s 0 b = some r) : wP (.sliceStr (.c (.str s)) none (some (.c (.int k' b)))) = some (.str r) := by
  obtain ⟨h1, h2, h3, h4, h5⟩ := slI_some (row_map byteC) h
  simp only [wP, aP, AX.ev, aSliceStr, aBoundO]
  rw [aBoundN (row_map byteC) h2 h3, Option.bind_some, Option.bind_some]
  simp only [Int.toNat_zero, Nat.sub_zero, List.drop_zero] at h4 ⊢
  rw [← h4]
theorem wP_slS_l {s r : List UInt8} {a : Int} {k : IntKind} (h : slI s a s.length = some r) : wP (.sliceStr (.c (.str s)) (some (.c (.int k a))) none) = some (.str r) := by
  obtain ⟨h1, h2, h3, h4, h5⟩ := slI_some (row_map byteC) h
  simp only [wP, aP, AX.ev, aSliceStr, aBoundO, Option.bind_some]
  rw [aBoundN (row_map byteC) h1 h2, Option.bind_some]
  simp only [Int.toNat_natCast] at h4
  rw [← h4]
theorem wP_iS {s : List UInt8} {i : Int} {k : IntKind} {x : UInt8} (h : getI s i = some x) : wP (.indexStr (.c (.str s)) (.c (.int k i))) = some (.int .u8 x.toNat) := by
  obtain ⟨h1, h2, h3⟩ := getI_some (row_map byteC) h
  simp only [wP, aP, AX.ev]
  rw [if_pos h1, h3]
  rfl

/-- An element of an array's value. -/
theorem wP_ix {α : Type} {F : List α → List AV} {c : α → AV} (hF : Row F (fun x => [c x]) 1) {l : List α} {i : Int} {k : IntKind} {x : α} {n : Nat} (h : getI l i = some x) (hn : n = l.length := by rfl) : wP (.index false n 1 (.c (.agg (F l))) (.c (.int k i))) = some (c x) := by
  subst hn
  obtain ⟨h1, h2, h3⟩ := getI_some hF h
  have := hF.get h3
  simp only [wP, aP, AX.ev]
  rw [if_pos ⟨h1, h2⟩]
  have e : ((F l).drop (i.toNat * 1))[0]? = some (c x) := by rw [this]; rfl
  rw [List.getElem?_drop] at e
  simp only [aPart]
  simpa using e

/-- Which of two ends it was. -/
def isL {α β : Type} : α ⊕ β → Bool
  | .inl _ => true
  | .inr _ => false
def getL {α β : Type} [Inhabited α] : α ⊕ β → α
  | .inl x => x
  | .inr _ => default
def getR {α β : Type} [Inhabited β] : α ⊕ β → β
  | .inl _ => default
  | .inr x => x
theorem isL_t {α β : Type} [Inhabited α] {e : α ⊕ β} (h : isL e = true) : e = .inl (getL e) := by cases e <;> simp_all [isL, getL]
theorem isL_f {α β : Type} [Inhabited β] {e : α ⊕ β} (h : isL e = false) : e = .inr (getR e) := by cases e <;> simp_all [isL, getR]

end Go.Proofs.Ytlcjmchhnbdepaa
end

section
/- W, eighteenth part: more words of printed texts. -/
set_option linter.all false
set_option linter.unusedSimpArgs false
namespace Go.Proofs.Ytlcjmchhnbdepaa

instance instInhSum {α β : Type} [Inhabited α] : Inhabited (α ⊕ β) := ⟨.inl default⟩

theorem u8_w (x : Int) : some (AV.int .u8 (IntKind.u8.wrap x)) = some (AV.int .u8 ((u8w x).toNat : Int)) := by rw [← u8w_eq]; rfl
theorem u8_of {z y : Int} (h : z = IntKind.u8.wrap y) : some (AV.int .u8 z) = some (AV.int .u8 ((u8w z).toNat : Int)) := by
  have h1 : 0 ≤ IntKind.u8.wrap y ∧ IntKind.u8.wrap y < 256 := by
    simp only [IntKind.wrap, IntKind.signed, IntKind.bits]
    constructor
    · simp; omega
    · simp; omega
  have e : IntKind.u8.wrap z = z := by
    subst h
    generalize IntKind.u8.wrap y = z at *
    simp only [IntKind.wrap, IntKind.signed, IntKind.bits]
    simp
    omega
  have := u8_w z
  rwa [e] at this

theorem cTake_app : ∀ (n : Nat) {a b l : List AV}, cTake n a = some l → cTake n (a ++ b) = some l
  | 0, _, _, _, h => by simpa [cTake] using h
  | n + 1, [], _, _, h => by simp [cTake] at h
  | n + 1, c :: a, b, l, h => by
    simp only [cTake, List.cons_append] at h ⊢
    split at h
    · rename_i l' hl
      rw [cTake_app n hl]
      exact h
    · cases h
theorem cAt_app : ∀ {a b : List AV} (o : Nat) {v : AV}, cAt a o = some v → cAt (a ++ b) o = some v
  | [], _, _, _, h => by simp [cAt] at h
  | c :: a, b, 0, v, h => by simpa [cAt] using h
  | c :: a, b, o + 1, v, h => by
    simp only [cAt, List.cons_append] at h ⊢
    exact cAt_app o h
theorem cAt_drop : ∀ (c : List AV) (n o : Nat), cAt c (n + o) = cAt (c.drop n) o
  | c, 0, o => by simp
  | [], n + 1, o => by
    simp only [List.drop_nil]
    cases (n + 1 + o) <;> cases o <;> simp [cAt]
  | x :: c, n + 1, o => by
    rw [Nat.add_right_comm, List.drop_succ_cons, ← cAt_drop c n o]
    rfl
theorem cPart_app {a b : List AV} {agg : Bool} {o n : Nat} {v : AV} (h : cPart agg o n a = some v) : cPart agg o n (a ++ b) = some v := by
  cases agg with
  | false => exact cAt_app o h
  | true =>
    simp only [cPart] at h ⊢
    rw [List.drop_append]
    split at h
    · rename_i l hl
      rw [cTake_app n hl]
      exact h
    · cases h
theorem cPart_drop {c : List AV} {agg : Bool} {m o n : Nat} : cPart agg (m + o) n c = cPart agg o n (c.drop m) := by
  cases agg with
  | false => exact cAt_drop c m o
  | true => simp only [cPart, List.drop_drop]

section
variable {α : Type} {F : List α → List AV} {e : α → List AV} {sz : Nat} (hF : Row F e sz)
include hF
/-- Part of an element of one's own. -/
theorem cP_row {l : List α} {i : Int} {x : α} {agg : Bool} {o n : Nat} {v : AV} (h : getI l i = some x) (hv : cPart agg o n (e x) = some v) : cPart agg (0 + i.toNat * sz + o) n (F l) = some v := by
  obtain ⟨h1, h2, h3⟩ := getI_some hF h
  rw [Nat.zero_add, cPart_drop, hF.get h3]
  exact cPart_app hv
theorem wrC_app {a b b' c cs : List AV} {o : Nat} (h : wrC b o cs = some b') : wrC (a ++ (b ++ c)) (a.length + o) cs = some (a ++ (b' ++ c)) := by
  unfold wrC at h ⊢
  split at h
  case isFalse => cases h
  rename_i hl
  obtain rfl := Option.some.inj h
  rw [if_pos (by simp only [List.length_append]; omega)]
  congr 1
  have e1 : (a ++ (b ++ c)).take (a.length + o) = a ++ b.take o := by
    rw [List.take_length_add_append, List.take_append_of_le_length (by omega)]
  have e2 : (a ++ (b ++ c)).drop (a.length + o + cs.length) = b.drop (o + cs.length) ++ c := by
    rw [Nat.add_assoc, List.drop_length_add_append, List.drop_append_of_le_length (by omega)]
  rw [e1, e2]
  simp
theorem wr_row {l : List α} {i : Int} {x x' : α} {o : Nat} {cs : List AV} (h : getI l i = some x) (hx : wrC (e x) o cs = some (e x')) : wrC (F l) (0 + i.toNat * sz + o) cs = some (F (l.set i.toNat x')) := by
  obtain ⟨h1, h2, h3⟩ := getI_some hF h
  obtain ⟨g1, g2⟩ := List.getElem?_eq_some_iff.1 h3
  have e0 : F l = F (l.take i.toNat) ++ (e x ++ F (l.drop (i.toNat + 1))) := by
    rw [← hF.get h3, ← hF.take, List.take_append_drop]
  have e1 : F (l.set i.toNat x') = F (l.take i.toNat) ++ (e x' ++ F (l.drop (i.toNat + 1))) := by
    rw [← hF.cons, ← hF.app, List.set_eq_take_append_cons_drop, if_pos g1]
  have e2 : (F (l.take i.toNat)).length = i.toNat * sz := by
    rw [hF.length, List.length_take]
    congr 1
    omega
  rw [e0, e1, Nat.zero_add, ← e2]
  exact wrC_app hF hx
theorem part_row {l r : List α} {a b : Int} (h : slI l a b = some r) : ((F l).drop (0 + a.toNat * sz)).take (r.length * sz) = F r := by
  obtain ⟨h1, h2, h3, h4, h5⟩ := slI_some hF h
  rw [Nat.zero_add, hF.drop, hF.take, h5, ← h4]
theorem part_row0 {l r : List α} {b : Int} (h : slI l 0 b = some r) : ((F l).drop 0).take (r.length * sz) = F r := by
  obtain ⟨h1, h2, h3, h4, h5⟩ := slI_some hF h
  simp only [Int.toNat_zero, List.drop_zero] at h4 h5 ⊢
  rw [hF.take, h5, ← h4]
theorem take_row {l r : List α} {b : Int} (h : slI l 0 b = some r) : (F l).take (r.length * sz) = F r := by
  have := part_row0 hF h
  rwa [List.drop_zero] at this
theorem wP_slA_lh {l r : List α} {a b : Int} {k k' : IntKind} {m : Nat} {w : Bool} (h : slI l a b = some r) : wP (.slice sz (.c (.acc m 0 sz l.length w)) (some (.c (.int k a))) (some (.c (.int k' b))) none) = some (.acc m (0 + a.toNat * sz) sz r.length false) := by
  obtain ⟨h1, h2, h3, h4, h5⟩ := slI_some hF h
  simp only [wP, AX.ev, vSliceA, if_true, aBoundO]
  rw [aBoundN hF (by omega) h3, Option.bind_some, aBoundN hF h1 (by omega), Option.bind_some, h5]
theorem wP_slA_l {l r : List α} {a : Int} {k : IntKind} {m : Nat} {w : Bool} (h : slI l a l.length = some r) : wP (.slice sz (.c (.acc m 0 sz l.length w)) (some (.c (.int k a))) none none) = some (.acc m (0 + a.toNat * sz) sz r.length false) := by
  obtain ⟨h1, h2, h3, h4, h5⟩ := slI_some hF h
  simp only [wP, AX.ev, vSliceA, if_true, aBoundO, Option.bind_some]
  rw [aBoundN hF h1 h2, Option.bind_some]
  simp only [Int.toNat_natCast] at h5
  rw [h5]
theorem wP_slA_h {l r : List α} {b : Int} {k : IntKind} {m : Nat} {w : Bool} (h : slI l 0 b = some r) : wP (.slice sz (.c (.acc m 0 sz l.length w)) none (some (.c (.int k b))) none) = some (.acc m 0 sz r.length false) := by
  obtain ⟨h1, h2, h3, h4, h5⟩ := slI_some hF h
  simp only [wP, AX.ev, vSliceA, if_true, aBoundO]
  rw [aBoundN hF h2 h3, Option.bind_some, Option.bind_some]
  simp only [Int.toNat_zero, Nat.sub_zero] at h5
  rw [h5, Nat.zero_mul, Nat.sub_zero]
/-- New cells. -/
theorem reps_row {x : α} {z : List AV} (hx : F [x] = z) (n : Nat) : reps n z = F (List.replicate n x) := by
  induction n with
  | zero => simp [reps, hF.nil]
  | succ n ih =>
    rw [List.replicate_succ, hF.cons, reps, ih]
    rw [hF.cons, hF.nil, List.append_nil] at hx
    rw [hx]
end
def makeB (bytes : Nat) (n : Int) : Bool := decide (0 ≤ n ∧ n ≤ 4611686018427387904 ∧ bytes * n.toNat ≤ 281474976710656)

theorem wMk_of {bytes : Nat} {n : Int} (h : makeB bytes n = true) : wMk (.int .i64 n) (.int .i64 n) n.toNat bytes := by
  obtain ⟨h1, h2, h3⟩ := of_decide_eq_true h
  have e : (n.toNat : Int) = n := by omega
  refine ⟨by rw [e], by rw [e], by omega, h3⟩
abbrev lfe {A : Type} (f : A → Ex × Fast × WH) (y r : A) : Prop := (f y).1 = (f r).1 ∧ (f y).2.1 = (f r).2.1 ∧ (f y).2.2 = (f r).2.2
theorem lfe_of {A : Type} {f : A → Ex × Fast × WH} {y r : A} (h : some y = some r) : lfe f y r := by
  cases h
  exact ⟨rfl, rfl, rfl⟩
abbrev lff {A : Type} (f : A → AV × WH) (y r : A) : Prop := (f y).1 = (f r).1 ∧ (f y).2 = (f r).2
theorem lff_of {A : Type} {f : A → AV × WH} {y r : A} (h : some y = some r) : lff f y r := by
  cases h
  exact ⟨rfl, rfl⟩
abbrev RunX (f : Fast → Heap → BOut) (np : Nat) (i : Fast × WH) (o : Ex × Fast × WH) : Prop := RunS f np i.1 i.2 o.1 o.2.1 o.2.2
abbrev inL (keep : List Nat) (p : List AV × WH) : Fast × WH := (zipKeep keep p.1, p.2)
theorem wx {A : Type} [Inhabited A] (o : Option A) : ∃ x : A, x = o.getD default := ⟨_, rfl⟩

theorem wP_shr {k k' : IntKind} {x y q : Int} (h : shrI k x y = some q) : aBin .shr (.int k x) (.int k' y) = some (.int k q) := by
  unfold shrI at h
  simp only [aBin]
  split at h
  · cases h
  · rename_i e
    rw [if_neg e]
    obtain rfl := Option.some.inj h
    rfl
theorem wP_shl {k k' : IntKind} {x y q : Int} (h : shlI k x y = some q) : aBin .shl (.int k x) (.int k' y) = some (.int k q) := by
  unfold shlI at h
  simp only [aBin]
  split at h
  · cases h
  · rename_i e
    rw [if_neg e]
    obtain rfl := Option.some.inj h
    rfl

def growB (bytes : Nat) (n : Int) : Bool := decide (0 ≤ n ∧ n ≤ 70368744177664 ∧ bytes * n.toNat ≤ 281474976710656 ∧ n.toNat * bytes ≤ 70368744177664)

/-! ### slices.Insert of one element -/

def insL {α : Type} (l : List α) (i : Int) (x : α) : List α := l.take i.toNat ++ (x :: l.drop i.toNat)
def insB (bytes : Nat) (i : Int) (n : Nat) : Bool := decide (0 ≤ i ∧ i ≤ (n : Int)) && fitsB bytes (n + 1)
theorem insB_1 {bytes n : Nat} {i : Int} (h : insB bytes i n = true) : 0 ≤ i ∧ i ≤ (n : Int) := by
  simp only [insB, Bool.and_eq_true, decide_eq_true_eq] at h
  exact h.1
theorem insB_2 {bytes : Nat} {i : Int} {α : Type} {l : List α} {x : α} (h : insB bytes i l.length = true) : l.length + 1 = (insL l i x).length := by
  have := insB_1 h
  simp only [insL, List.length_append, List.length_take, List.length_cons, List.length_drop]
  omega
theorem insB_3 {bytes : Nat} {i : Int} {α : Type} {l : List α} {x : α} (h : insB bytes i l.length = true) : fitsB bytes (insL l i x).length = true := by
  rw [← insB_2 h]
  simp only [insB, Bool.and_eq_true] at h
  exact h.2
theorem ins_row {α : Type} {F : List α → List AV} {e : α → List AV} {sz : Nat} (hF : Row F e sz) {l : List α} {i : Int} {x : α} {cs : List AV} (h : cs = e x) : (F l).take (i.toNat * sz) ++ (cs ++ (F l).drop (i.toNat * sz)) = F (insL l i x) := by
  subst h
  unfold insL
  rw [hF.app, hF.cons, hF.take, hF.drop]

def delL {α : Type} (l : List α) (i j : Int) : List α := l.take i.toNat ++ l.drop j.toNat
def delB (i j : Int) (n : Nat) : Bool := decide (0 ≤ i ∧ i < j ∧ j ≤ (n : Int))
theorem delB_1 {n : Nat} {i j : Int} (h : delB i j n = true) : 0 ≤ i ∧ i < j ∧ j ≤ (n : Int) := of_decide_eq_true h
theorem delB_2 {i j : Int} {α : Type} {l : List α} (h : delB i j l.length = true) : l.length - (j.toNat - i.toNat) = (delL l i j).length := by
  have := delB_1 h
  simp only [delL, List.length_append, List.length_take, List.length_drop]
  omega
theorem del_row {α : Type} {F : List α → List AV} {e : α → List AV} {sz : Nat} (hF : Row F e sz) {l : List α} {i j : Int} : (F l).take (i.toNat * sz) ++ (F l).drop (j.toNat * sz) = F (delL l i j) := by
  unfold delL
  rw [hF.app, hF.take, hF.drop]

/-! ### Arrays -/

theorem wP_arr {α : Type} {n sz b off : Nat} {k : IntKind} {l : List α} {i : Int} {x : α} (h : getI l i = some x) (hn : l.length = n) : wP (.idxArr n sz (.c (.ptr (some (b, off)))) (.c (.int k i))) = some (.ptr (some (b, off + i.toNat * sz))) := by
  have h1 : 0 ≤ i ∧ i < (n : Int) := by
    unfold getI at h
    split at h
    · have := (List.getElem?_eq_some_iff.1 h).1
      omega
    · cases h
  simp only [wP, AX.ev, aP]
  rw [if_pos h1]

section
variable {α : Type} {F : List α → List AV} {e : α → List AV} {sz : Nat} (hF : Row F e sz)
include hF
theorem cP_arr {l : List α} {i : Int} {x : α} {agg : Bool} {o n p : Nat} {v : AV} {whole : List AV} (h : getI l i = some x) (hw : (whole.drop p).take (l.length * sz) = F l) (hv : cPart agg o n (e x) = some v) : cPart agg (p + i.toNat * sz + o) n whole = some v := by
  have h1 := cP_row hF h hv
  rw [← hw] at h1
  rw [Nat.zero_add] at h1
  have e1 : whole = whole.take p ++ ((whole.drop p).take (l.length * sz) ++ (whole.drop p).drop (l.length * sz)) := by rw [List.take_append_drop, List.take_append_drop]
  rw [cPart_drop] at h1
  rw [show p + i.toNat * sz + o = p + (i.toNat * sz + o) from Nat.add_assoc _ _ _, cPart_drop]
  have h2 := cPart_app (b := (whole.drop p).drop (l.length * sz)) h1
  obtain ⟨g1, g2, g3⟩ := getI_some hF h
  have hl : (whole.drop p).take (l.length * sz) = F l := hw
  have hlen : ((whole.drop p).take (l.length * sz)).length = l.length * sz := by rw [hl, hF.length]
  have hi : i.toNat * sz ≤ l.length * sz := Nat.mul_le_mul_right _ (by omega)
  rw [← List.drop_append_of_le_length (by omega), List.take_append_drop, List.drop_drop] at h2
  rw [cPart_drop, List.drop_drop] 
  exact h2
theorem wr_arr {l l' : List α} {i : Int} {x x' : α} {o p : Nat} {cs whole after : List AV} (h : getI l i = some x) (hl : l' = l.set i.toNat x') (hx : wrC (e x) o cs = some (e x')) (hp : p ≤ whole.length) (hw : (whole.drop p).take (l.length * sz) = F l) (ha : after = whole.take p ++ (F l' ++ whole.drop (p + l.length * sz))) :
    wrC whole (p + i.toNat * sz + o) cs = some after := by
  have h1 := wr_row hF h hx
  rw [Nat.zero_add] at h1
  have h2 := wrC_app (a := whole.take p) (c := whole.drop (p + l.length * sz)) hF h1
  have e1 : whole = whole.take p ++ (F l ++ whole.drop (p + l.length * sz)) := by
    rw [← hw, ← List.drop_drop, List.take_append_drop, List.take_append_drop]
  rw [← e1, List.length_take, Nat.min_eq_left hp, ← hl, ← ha] at h2
  rw [Nat.add_assoc]
  exact h2
end

theorem wP_ixA {α : Type} {F : List α → List AV} {e : α → List AV} {sz : Nat} (hF : Row F e sz) {l : List α} {i : Int} {k : IntKind} {x : α} {n : Nat} (h : getI l i = some x) (hn : n = l.length := by rfl) : wP (.index true n sz (.c (.agg (F l))) (.c (.int k i))) = some (.agg (e x)) := by
  subst hn
  obtain ⟨h1, h2, h3⟩ := getI_some hF h
  have := hF.get h3
  simp only [wP, aP, AX.ev]
  rw [if_pos ⟨h1, h2⟩]
  simp only [aPart, if_true]
  rw [this, List.take_left' (hF.len x)]

/-! ### Words of trees -/

theorem nB {C : ACalls} (f : FuncId) (b : Bt) (h : (fun _ => none : FuncId → Option Bt) f = some b) : BOk C f b := by cases h
theorem il {α β : Type} [Inhabited α] {e : α ⊕ β} (h : isL e = true) : e = .inl (getL e) := isL_t h
theorem ir0 {α β : Type} [Inhabited β] {e : α ⊕ β} (h : isL e = false) : e = .inr (getR e) := isL_f h
theorem ir {α β : Type} [Inhabited β] {e : α ⊕ β} {y : β} (h : isL e = false) (k : getR e = y) : e = .inr y := by rw [isL_f h, k]
theorem rwr {β : Type} {fin : β → Ex × Fast × WH} {r r' : β} (e : r = r') {f : Fast → Heap → BOut} {np : Nat} {i : Fast × WH} (h : RunX f np i (fin r)) : RunX f np i (fin r') := e ▸ h
def codeOf : Option AFunc → ACode
  | some f => f.code
  | none => .fail
def cA : ACode → ACode
  | .seq a _ => a
  | c => c
def cB : ACode → ACode
  | .seq _ b => b
  | c => c
def cT : ACode → ACode
  | .cond _ a _ => a
  | c => c
def cF : ACode → ACode
  | .cond _ _ b => b
  | c => c
def cK : ACode → ACode
  | .block _ c => c
  | c => c
def cL : ACode → ACode
  | .loop _ c => c
  | c => c
def En (keep : List Nat) : Lf := .en keep (keep.map fun _ => none) [] []
def E0 {Q : Type} {v : Q} (keep : List Nat) : Tc (some v) := .leaf (En keep) v
def E1 {Q : Type} {v : Q} (keep : List Nat) (ms bs : List (Option Bool)) (ts : List AV) : Tc (some v) := .leaf (.en keep ms bs ts) v
def Fn {Q : Type} {v : Q} (m : Option Bool) (ts : List AV) (mc : Option Bool) : Tc (some v) := .leaf (.fin m ts mc) v
def Fo : Option Bool := some false
def Tw : Option Bool := some true
def sp_ {G : Sums} {T : FuncId → Option AFunc} {f : FuncId} {x : AFunc} (hG : G f = none) (hT : T f = some x) (hc : x.code.okc = true) : G f = none ∧ T f = some x ∧ x.code.okc = true := ⟨hG, hT, hc⟩
section
variable {Q : Type} {f : Option Q}
section
variable {α : Type} {F : List α → List AV} {e : α → List AV} {sz : Nat} (hF : Row F e sz) {l r : List α} {i j : Int} {x : α}
def Ix (d : Nat) (h : getI l i = some x) (k : Tc f) : Tc f := .v d (.elem (e x ++ F (l.drop (i.toNat + 1)))) (.ob (wP_idx (k := .i64) (ex := false) hF h) k)
def Si (d : Nat) (h : slI l 0 j = some r) (k : Tc f) : Tc f := .v d (.list sz r.length (F r) false) (.ob (wP_sl_h (k := .i64) (ex := false) hF h) k)
def Sl (d : Nat) (h : slI l i l.length = some r) (k : Tc f) : Tc f := .v d (.list sz r.length (F r) false) (.ob (wP_sl_l (k := .i64) (ex := false) hF h) k)
def Sb (d : Nat) (h : slI l i j = some r) (k : Tc f) : Tc f := .v d (.list sz r.length (F r) false) (.ob (wP_sl_lh (k := .i64) (k' := .i64) (ex := false) hF h) k)
def Ia (d b : Nat) (h : getI l i = some x) (k : Tc f) : Tc f := .v d (.ptr (some (b, 0 + i.toNat * sz))) (.ob (wP_idxA (k := .i64) (b := b) (w := true) hF h) k)
def Ld (d : Nat) (agg : Bool) (n o : Nat) (h : getI l i = some x) (u : AV) (hv : cPart agg o n (e x) = some u) (k : Tc f) : Tc f := .v d u (.ob (cP_row hF h hv) k)
def Ap (d : Nat) {b : Nat} (h : fitsB b (l ++ r).length = true) (k : Tc f) : Tc f := .ap d (l ++ r).length (F (l ++ r)) (.ob (app_len l r) (.ob (Row.app hF l r).symm (.ob h k)))
end
def Ap0 {α : Type} {F : List α → List AV} {e : α → List AV} {sz : Nat} (_ : Row F e sz) (d : Nat) {r : List α} {b : Nat} (h : fitsB b r.length = true) (k : Tc f) : Tc f := .ap d r.length (F r) (.ob (Nat.zero_add r.length) (.ob (@rfl _ (F r)) (.ob h k)))
def Cl (ms : List (Option Bool)) (m : Option Bool) (ts : List AV) {C : ACalls} {g : FuncId} {args : List AV} {blks : WH} {v : AV} {out : WH} (h : Spec C g args blks v out) (r : Tc f) : Tc f := .call ms m ts v out (.ob h r)
def Cl0 {C : ACalls} {g : FuncId} {args : List AV} {blks : WH} {v : AV} {out : WH} (h : Spec C g args blks v out) (r : Tc f) : Tc f := .call [] none [] v out (.ob h r)
def Cb (ts : List AV) {C : ACalls} {g : FuncId} {args : List AV} {blks : WH} {v : AV} {out : WH} (h : Spec C g args blks v out) (r : Tc f) : Tc f := .cb [] ts v (.ob h r)
def Cb0 {C : ACalls} {g : FuncId} {args : List AV} {blks : WH} {v : AV} {out : WH} (h : Spec C g args blks v out) (r : Tc f) : Tc f := .cb [] [] v (.ob h r)
def Ln (ms : List (Option Bool)) (ls : List Bool) (ts : List AV) {C : ACalls} {g : FuncId} {args : List AV} {blks : WH} {v : AV} {out : WH} (k : Tc f → Tc f) (h : Spec C g args blks v out) (r : Tc f) : Tc f := .cl ms ls ts v out (k (.ob h r))
def Lp (ms bs : List (Option Bool)) (ts : List AV) {run : Fast → Heap → BOut} {np : Nat} {i : Fast × WH} {o : Ex × Fast × WH} (h : RunX run np i o) (r : Tc f) : Tc f := .lp ms bs ts o.1 o.2.1 o.2.2 (.ob h r)
def Jn (keep : List Nat) (ms bs : List (Option Bool)) (ts : List AV) {run : Fast → Heap → BOut} {np : Nat} {i : Fast × WH} {o : Ex × Fast × WH} (h : RunX run np i o) (r : Tc f) : Tc f := .jn keep ms bs ts o.1 o.2.1 o.2.2 (.ob h r)
end

end Go.Proofs.Ytlcjmchhnbdepaa
end

section
/- W, nineteenth part: what is read, as typed data. -/
set_option linter.all false
set_option linter.unusedSimpArgs false
namespace Go.Proofs.Ytlcjmchhnbdepaa

/-- What is read of a shape is a datum of a type: its cells, its bulk, what it keeps to. -/
structure Rt (s : Sh) {α : Type} (e : α → List AV) (bk : α → Nat) (ok : α → Prop) : Prop where
  rd : ∀ d, D.is s d → ∃ x, encS s d = e x ∧ bk x ≤ D.bulk d ∧ ok x
  sz : ∀ x, (e x).length = shSize s

abbrev okI (x : Int) : Prop := -9223372036854775808 ≤ x ∧ x ≤ 9223372036854775807
abbrev eI (x : Int) : List AV := [.int .i64 x]
abbrev eB (x : UInt8) : List AV := [byteC x]
abbrev eS (x : List UInt8) : List AV := [.str x]
abbrev eO (x : Bool) : List AV := [.bool x]
abbrev bk1 {α : Type} (_ : α) : Nat := 1
abbrev bkS (x : List UInt8) : Nat := x.length + 1
abbrev okT {α : Type} (_ : α) : Prop := True
def bkL {α : Type} (bk : α → Nat) (l : List α) : Nat := (l.map bk).sum + 1
def okL {α : Type} (ok : α → Prop) (l : List α) : Prop := ∀ x ∈ l, ok x

theorem Rt_I : Rt (.int .i64) eI bk1 okI := ⟨fun d h => by
  obtain ⟨n, rfl, h1, h2⟩ := h
  exact ⟨n, rfl, by simp [D.bulk], h1, h2⟩, fun _ => rfl⟩
theorem Rt_B : Rt (.int .u8) eB bk1 okT := ⟨fun d h => by
  obtain ⟨n, rfl, h1, h2⟩ := h
  have h3 : 0 ≤ n := h1
  have h4 : n ≤ 255 := h2
  refine ⟨UInt8.ofNat n.toNat, ?_, by simp [D.bulk], trivial⟩
  simp only [encS, eB, byteC, List.cons.injEq, AV.int.injEq, true_and, and_true]
  rw [UInt8.toNat_ofNat', Nat.mod_eq_of_lt (by omega)]
  omega, fun _ => rfl⟩
theorem Rt_S : Rt .str eS bkS okT := ⟨fun d h => by
  obtain ⟨s, rfl⟩ := h
  exact ⟨s, rfl, by simp [D.bulk], trivial⟩, fun _ => rfl⟩
theorem Rt_O : Rt .bool eO bk1 okT := ⟨fun d h => by
  obtain ⟨b, rfl⟩ := h
  exact ⟨b, rfl, by simp [D.bulk], trivial⟩, fun _ => rfl⟩

theorem Rt_L {s : Sh} {α : Type} {e : α → List AV} {bk : α → Nat} {ok : α → Prop} {F : List α → List AV} {n : Nat} (r : Rt s e bk ok) (hF : Row F e n) (hn : shSize s = n) :
    Rt (.list s) (fun l => [.list n l.length (F l) false]) (bkL bk) (okL ok) := ⟨fun d h => by
  obtain ⟨l, rfl, h⟩ := h
  have key : ∀ l : List D, (∀ d ∈ l, D.is s d) → ∃ x : List α, x.length = l.length ∧ encL s l = x.flatMap e ∧ (x.map bk).sum ≤ D.bulks l ∧ ∀ y ∈ x, ok y := by
    intro l
    induction l with
    | nil => intro _; exact ⟨[], rfl, rfl, by simp [D.bulks], by simp⟩
    | cons d r' ih =>
      intro h
      obtain ⟨y, h1, h2, h3⟩ := r.rd d (h d (by simp))
      obtain ⟨x, q0, q1, q2, q3⟩ := ih fun z hz => h z (by simp [hz])
      refine ⟨y :: x, by simp [q0], by simp only [encL, h1, q1, List.flatMap_cons], by simp only [List.map_cons, List.sum_cons, D.bulks]; omega, ?_⟩
      intro z hz
      rcases List.mem_cons.1 hz with rfl | hz
      · exact h3
      · exact q3 z hz
  obtain ⟨x, q0, q1, q2, q3⟩ := key l h
  refine ⟨x, ?_, by simp only [bkL, D.bulk]; omega, q3⟩
  have hr : F x = x.flatMap e := by
    clear q0 q1 q2 q3
    induction x with
    | nil => rw [hF.nil]; rfl
    | cons y x ih => rw [hF.cons, ih, List.flatMap_cons]
  simp only [encS, q0, q1, hn, hr], fun _ => rfl⟩

/-- Of an aggregate. -/
theorem Rt_of {ss : List Sh} {α : Type} {e : α → List AV} {bk : α → Nat} {ok : α → Prop} (sz : ∀ x, (e x).length = shSizes ss)
    (h : ∀ l, D.are ss l → ∃ x, encSs ss l = e x ∧ bk x ≤ D.bulks l + 1 ∧ ok x) : Rt (.agg ss) e bk ok := ⟨fun d h0 => by
  obtain ⟨l, rfl, hl⟩ := h0
  obtain ⟨x, h1, h2, h3⟩ := h l hl
  exact ⟨x, h1, h2, h3⟩, sz⟩
theorem are_cons' {s : Sh} {ss : List Sh} {α : Type} {e : α → List AV} {bk : α → Nat} {ok : α → Prop} (r : Rt s e bk ok) {ds : List D} (h : D.are (s :: ss) ds) :
    ∃ d q, ds = d :: q ∧ D.are ss q ∧ ∃ x, encS s d = e x ∧ bk x ≤ D.bulk d ∧ ok x := by
  obtain ⟨d, q, h1, h2, h3⟩ := are_cons h
  exact ⟨d, q, h1, h3, r.rd d h2⟩

theorem bkL_mem {α : Type} {bk : α → Nat} {l : List α} {x : α} (h : x ∈ l) : bk x + 1 ≤ bkL bk l := by
  have : bk x ≤ (l.map bk).sum := by
    induction l with
    | nil => cases h
    | cons y l ih =>
      rcases List.mem_cons.1 h with rfl | h
      · simp
      · have := ih h
        simp only [List.map_cons, List.sum_cons]
        omega
  unfold bkL
  omega
theorem bkL_len {α : Type} {bk : α → Nat} (h : ∀ x, 1 ≤ bk x) (l : List α) : l.length + 1 ≤ bkL bk l := by
  have : l.length ≤ (l.map bk).sum := by
    induction l with
    | nil => simp
    | cons y l ih =>
      have := h y
      simp only [List.map_cons, List.sum_cons, List.length_cons]
      omega
  unfold bkL
  omega
theorem bkL_one' {α : Type} (l : List α) : bkL bk1 l = l.length + 1 := by
  have : (l.map bk1).sum = l.length := by
    induction l with
    | nil => simp
    | cons y l ih => simp only [List.map_cons, List.sum_cons, List.length_cons, ih, bk1]; omega
  unfold bkL
  omega
theorem bkL_one (l : List UInt8) : bkL bk1 l = l.length + 1 := by
  have : (l.map bk1).sum = l.length := by
    induction l with
    | nil => simp
    | cons y l ih => simp only [List.map_cons, List.sum_cons, List.length_cons, ih, bk1]; omega
  unfold bkL
  omega

end Go.Proofs.Ytlcjmchhnbdepaa
end
