/- The abstract machine, seventeenth part: drawn regions, code, functions: the machine is right. -/
import Derived.Test.YtachollgbplikaaAm16
set_option linter.unusedVariables false
set_option linter.unusedSimpArgs false
namespace Go.Proofs.Ytachollgbplikaa

theorem nodup_inj {l : List Nat} (h : l.Nodup) {i j x : Nat} (hi : l[i]? = some x) (hj : l[j]? = some x) : i = j := by
  obtain ⟨i1, i2⟩ := List.getElem?_eq_some_iff.1 hi
  obtain ⟨j1, j2⟩ := List.getElem?_eq_some_iff.1 hj
  rcases Nat.lt_trichotomy i j with hlt | he | hlt
  · exact absurd (i2.trans j2.symm) (List.pairwise_iff_getElem.1 h i j i1 j1 hlt)
  · exact he
  · exact absurd (j2.trans i2.symm) (List.pairwise_iff_getElem.1 h j i j1 i1 hlt)

theorem draw_all {P : Program} {C : ACalls} (hC : CallsOk P C) {ops : Array Oper} {A : List Nat} (hA : Good ops.toList A) {tau : List Nat} (htl : tau.length = ops.size) (htn : tau.Nodup) (hta : ∀ i, i < ops.size → i ∈ tau) {ds : List DOper} (hds : ds.length = tau.length)
    (hdo : ∀ (p i : Nat), tau[p]? = some i → ∃ (d : DOper) (o : Oper), ds[p]? = some d ∧ ops[i]? = some o ∧ d.o = cOper P ops o) {nk base : Nat} (c : DCond nk ds (fun p q => p < ds.length ∧ q < ds.length ∧ ancP A tau p q = true))
    {E : Nat → Env} {H : Nat → Heap} {G : Nat → List Heap} {V : Nat → AV} {W : Nat → Bool} {B : Nat → Option Blk} (r : DRun C base nk ds E H G V W B) (hg0 : G 0 = []) {ι0 : Inj} {M0 : Heap} {w0 : World} (hbase : M0.next = base)
    {L : List Nat} (hL : Lin .any ops L) {Q : Exit → Act → World → Prop} (hq : ∀ ι a w, Tr ι0 M0 w0 ι (H ds.length) w → VRL ι (E ds.length) a.tmps.toList → a.defers = [] → Q .normal a w) :
    ∀ (l dn : List Nat), L = dn ++ l → ∀ (q : Nat) (S : Nat → Bool) (ι : Inj) (a : Act) (w : World), (∀ p i, tau[p]? = some i → (S p = true ↔ i ∈ dn)) →
      DInv base nk ds E H V B (fun p q => p < ds.length ∧ q < ds.length ∧ ancP A tau p q = true) ι0 M0 w0 q S ι a w → wpOps P ops Q l a w := by
  intro l
  induction l with
  | nil =>
    intro dn hdn q S ι a w hS I
    simp only [wpOps]
    have hall : ∀ p, p < ds.length → S p = true := fun p hp => by
      have ht : tau[p]? = some tau[p] := by simp [show p < tau.length from by omega]
      have hlt := hL.lt
      rw [hS p _ ht]
      have : dn = L := by simpa using hdn.symm
      rw [this]
      refine hL.all _ ?_
      -- a place of tau is an operation
      have := hdo p _ ht
      obtain ⟨d, o, _, h2, _⟩ := this
      exact (Array.getElem?_eq_some_iff.1 h2).1
    have henv : envOf ds (E 0) V S = E ds.length := by
      rw [env_at c r ds.length (Nat.le_refl _)]
      unfold envOf
      refine List.map_congr_left fun t _ => ?_
      cases hw : writer ds t with
      | none => rfl
      | some p =>
        obtain ⟨d, hd, _⟩ := writer_some hw
        have hp := (List.getElem?_eq_some_iff.1 hd).1
        simp [hall p hp, hp]
    have hheap : heapOf base nk ds H B q S = H ds.length := by
      obtain ⟨g1, g2, g3⟩ := heap_quiet c r ds.length I.qle (Nat.le_refl _) fun j j1 j2 => by
        cases hj : loudAt ds j with
        | false => rfl
        | true => have := I.below j (hall j j2) hj; omega
      refine heap_ext (fun b => ?_) g1.symm
      by_cases hb : base ≤ b ∧ b < base + nk
      · rw [g3 (fun b p0 b1 b2 hs hq => (I.nones b b1 b2).1 p0 hs hq) b hb.1 hb.2]
        simp only [heapOf]
        rw [if_pos hb]
        cases hs : slotAt ds (b - base) with
        | none => exact ((I.nones b hb.1 hb.2).2 hs).symm
        | some p0 =>
          obtain ⟨d, hd, _⟩ := slotAt_some hs
          have hp := (List.getElem?_eq_some_iff.1 hd).1
          simp only
          by_cases h : p0 < q
          · rw [if_pos h, if_neg (by omega)]
          · rw [if_neg h, if_pos (hall p0 hp), if_pos ⟨by omega, hp⟩]
      · rw [g2 b hb]
        simp only [heapOf]
        rw [if_neg hb]
    have h1 := I.tr
    rw [hheap] at h1
    have h2 := I.env
    rw [henv] at h2
    exact hq ι a w h1 h2 I.defs
  | cons i l ih =>
    intro dn hdn q S ι a w hS I
    have hmem : i ∈ L := by rw [hdn]; simp
    have hi := hL.lt i hmem
    have hitau := hta i hi
    obtain ⟨p, hp⟩ := List.mem_iff_getElem?.1 hitau
    obtain ⟨d, o, hd, ho, hdo'⟩ := hdo p i hp
    have hplt := (List.getElem?_eq_some_iff.1 hd).1
    have hni : i ∉ dn := by
      have := hL.nodup
      rw [hdn, List.nodup_append] at this
      intro h
      exact this.2.2 i h i (by simp) rfl
    have hSp : S p = false := by
      cases h : S p with
      | false => rfl
      | true => exact absurd ((hS p i hp).1 h) hni
    -- what it hangs on is done
    have hclosed : ∀ j, j ∈ dn → ∀ o, ops.toList[j]? = some o → ∀ x, x ∈ preds o → x ∈ dn := by
      intro j hj o' ho' x hx
      obtain ⟨l1, l2, hl⟩ := List.append_of_mem hj
      unfold preds at hx
      obtain ⟨e, he, rfl⟩ := List.mem_map.1 hx
      obtain ⟨he, hb⟩ := List.mem_filter.1 he
      have := hL.after l1 j (l2 ++ i :: l) (by rw [hdn, hl]; simp) o' e (by simpa using ho') (by simpa using he) hb
      rw [hl]
      simp [this]
    have hanc : ∀ x, (A.getD i 0).testBit x = true → x ∈ dn := by
      intro x hx
      obtain ⟨o', ho', y, hy, hxy⟩ := hA i x hx
      have hyd : y ∈ dn := by
        unfold preds at hy
        obtain ⟨e, he, rfl⟩ := List.mem_map.1 hy
        obtain ⟨he, hb⟩ := List.mem_filter.1 he
        exact hL.after dn i l hdn o' e (by simpa using ho') (by simpa using he) hb
      rcases hxy with rfl | ⟨_, hxy⟩
      · exact hyd
      · exact good_closed hA (S := fun j => j ∈ dn) hclosed y hyd x hxy
    have hpre : ∀ s, (s < ds.length ∧ p < ds.length ∧ ancP A tau s p = true) → S s = true := by
      rintro s ⟨hs, _, ha⟩
      have hts : tau[s]? = some tau[s] := by simp [show s < tau.length from by omega]
      rw [hS s _ hts]
      refine hanc _ ?_
      unfold ancP at ha
      have e1 : tau.getD p 0 = i := by rw [List.getD_eq_getElem?_getD, hp]; rfl
      have e2 : tau.getD s 0 = tau[s] := by rw [List.getD_eq_getElem?_getD, hts]; rfl
      rw [e1, e2] at ha
      simpa using ha
    have hok : OpOk P C o d.o.op := by rw [hdo']; exact cOper_ok hC ops o
    have hdst : o.dst = d.o.dst := by rw [hdo', cOper_dst]
    have hstep := I.step c r hg0 hbase hd hSp hpre hok hdst
    have st := r.step p d hd
    have hagree := env_agree c r I.closed hd hSp hpre
    have hwant : awanted d.o.guard (envOf ds (E 0) V S) = some (W p) := by
      rw [← awanted_agree (e := E p) (fun t ht => hagree t (by simp only [AOper.rd, List.mem_append]; exact .inl ht))]
      exact st.want
    have hcw := cOper_wanted (P := P) ops o I.env (by rw [← hdo']; exact hwant)
    have hSm : ∀ s j, tau[s]? = some j → (more S p s = true ↔ j ∈ dn ++ [i]) := by
      intro s j hs
      by_cases hsp : s = p
      · subst hsp
        rw [hp] at hs
        obtain rfl := Option.some.inj hs
        simp [more]
      · rw [more_ne hsp, hS s j hs]
        have : j ≠ i := by
          rintro rfl
          exact hsp (nodup_inj htn hs hp)
        simp [this]
    simp only [wpOps, ho]
    cases hw : W p with
    | true =>
      rw [hw] at hcw
      have hwant' : Region.wanted o (yielded ops a.tmps) = true := by
        rcases hcw with h | ⟨hf, _⟩
        · exact h
        · rw [← hdo'] at hf
          have := (st.n .fail hw hf).1
          simp [aN] at this
      rw [if_pos hwant']
      left
      exact hstep.1 hw _ Q fun q' ι' v' w' I' => ih (dn ++ [i]) (by rw [hdn]; simp) q' (more S p) ι' _ w' hSm I'
    | false =>
      rw [hw] at hcw
      have hwant' : ¬ Region.wanted o (yielded ops a.tmps) = true := by
        rcases hcw with h | ⟨_, hf⟩
        · simp [h]
        · cases hf
      rw [if_neg hwant']
      obtain ⟨q', I'⟩ := hstep.2 hw
      exact ih (dn ++ [i]) (by rw [hdn]; simp) q' (more S p) ι _ w hSm I'

theorem draw_sound {P : Program} {C : ACalls} (hC : CallsOk P C) {id : Nat} {ops : Array Oper} {nk : Nat} {ds : List DOper} (hc : cDraw P ops = .dreg nk ds) {ι : Inj} {M : Heap} {e : Env} {a : Act} {w : World} (r : R ι M w) (he : VRL ι e a.tmps.toList) (hd : a.defers = []) {e' : Env} {M' : Heap}
    (h : adops C M.next nk ds e { M with next := M.next + nk } [] = some (e', M')) {Q : Exit → Act → World → Prop} (hq : ∀ ι' a' w', Tr ι M w ι' M' w' → VRL ι' e' a'.tmps.toList → a'.defers = [] → Q .normal a' w') : (Code.region id ops true).wp P Q a w := by
  unfold cDraw at hc
  simp only at hc
  split at hc
  case isFalse => cases hc
  rename_i hcond
  simp only [Bool.and_eq_true, beq_iff_eq, decide_eq_true_eq, List.all_eq_true] at hcond
  obtain ⟨⟨hedges, ⟨htl, htn⟩, hta⟩, hcheck⟩ := hcond
  injection hc with hc1 hc2
  rw [hc1, hc2] at hcheck
  have cnd := dCheck_cond (by rw [← hc2]; simp [dList]) hcheck
  obtain ⟨E, H, G, V, W, B, hr, q1, q2, q3, q4, q5⟩ := drun_of ds e _ _ e' M' h
  refine wp_region_draw fun t => ?_
  have hL : Lin .any ops (Region.schedule (P.follows .mixedOrders) ops t) := by
    rw [Bool.or_eq_true] at hedges
    rcases hedges with h | h
    · exact schedule_lin h (P.follows .mixedOrders) t
    · exact schedule_lin h (P.follows .mixedOrders) t
  have hA : Good ops.toList (ancs ops.toList []) := ancs_good ops.toList ops.toList [] [] (by simp) rfl (fun i a ha => by simp [List.getD_eq_getElem?_getD] at ha)
  have rd := r.drew (w.drawn + 1)
  have hta' : ∀ i, i < ops.size → i ∈ dTau (ancs ops.toList []) (fun i => ((ops.toList.map (cOper P ops)).getD i { dst := none, op := .n .fail, guard := none }).op.loud) ops.size := fun i hi => by
    have := hta i (by simpa using hi)
    simpa using this
  generalize htau : dTau (ancs ops.toList []) (fun i => ((ops.toList.map (cOper P ops)).getD i { dst := none, op := .n .fail, guard := none }).op.loud) ops.size = tau at *
  have hlt : ∀ i, i ∈ tau → i < ops.size := by
    intro i hi
    rcases Nat.lt_or_ge i ops.size with h | h
    · exact h
    · exfalso
      have := nodup_len (i :: List.range ops.size) tau (List.nodup_cons.2 ⟨by simpa using h, List.nodup_range⟩) (fun x hx => by
        rcases List.mem_cons.1 hx with rfl | hx
        · exact hi
        · exact hta' x (by simpa using hx))
      simp at this
      omega
  have hds : ds.length = tau.length := by rw [← hc2]; simp [dList]
  have hdo : ∀ (p i : Nat), tau[p]? = some i → ∃ (d : DOper) (o : Oper), ds[p]? = some d ∧ ops[i]? = some o ∧ d.o = cOper P ops o := by
    intro p i hp
    have hi := hlt i (List.mem_of_getElem? hp)
    have ho : ops[i]? = some ops[i] := by simp [hi]
    refine ⟨_, ops[i], by rw [← hc2]; simp only [dList, List.getElem?_map, hp, Option.map_some]; rfl, ho, ?_⟩
    simp [List.getD_eq_getElem?_getD, hi]
  have hbase : ∀ b, M.next ≤ b → b < M.next + nk → (H 0).get b = none := fun b b1 _ => by
    rw [q2]
    exact (r.fresh b b1).1
  have hheap : heapOf M.next nk ds H B 0 (fun _ => false) = { M with next := M.next + nk } := by
    refine heap_ext (fun b => ?_) (by simp [heapOf, q2])
    simp only [heapOf]
    split
    · rename_i hb
      have := (r.fresh b hb.1).1
      cases slotAt ds (b - M.next) <;> simp [this]
    · rw [q2]
  have hR0 : R ι { M with next := M.next + nk } { w with drawn := w.drawn + 1 } := ⟨rd.blk, rd.apart, fun b hb => rd.fresh b (by simp only at hb; omega)⟩
  refine draw_all hC hA htl htn hta' hds hdo (base := M.next) cnd hr q3 (ι0 := ι) (M0 := M) (w0 := w) rfl hL (fun ι' a' w' ht hv hd' => ?_) _ [] rfl 0 (fun _ => false) ι a _ (fun p i _ => by simp) ?_
  · rw [q5] at ht
    rw [q4] at hv
    exact hq ι' a' w' ht hv hd'
  · refine ⟨Nat.zero_le _, .inl rfl, fun j h => by simp at h, fun p s h => by simp at h, fun b b1 b2 => ⟨fun p0 _ _ => hbase b b1 b2, fun _ => hbase b b1 b2⟩, by rw [q2]; exact Nat.le_refl _, ?_, fun p d' _ _ _ => (r.fresh _ (by omega)).2, ?_, hd⟩
    · rw [hheap]
      exact ⟨hR0, fun _ _ => rfl, by simp, fun _ _ h => h, fun _ _ h _ => h, fun b x l h1 h2 h3 _ => ⟨b, x, l, h1, h2, h3, rfl⟩, fun _ _ _ => rfl, Nat.le_refl _, rfl, rfl, rfl⟩
    · have : envOf ds (E 0) V (fun _ => false) = e := by
        rw [q1]
        refine env_ext (envOf_length _ _) fun t => ?_
        rw [envOf_getD]
        split
        · cases writer ds t <;> simp
        · rename_i h
          have hle : List.length e ≤ t := by omega
          rw [List.getD_eq_getElem?_getD, List.getElem?_eq_none hle]
          rfl
      rw [this]
      exact he

/-! ### Code -/

abbrev Hints := List (List Nat)

def cCode (P : Program) : Code → Hints → ACode × Hints
  | .skip, h => (.skip, h)
  | .region _ ops true, h => (cDraw P ops, h)
  | .region _ ops false, h => (.reg ((List.range ops.size).map fun i => cOper P ops (ops.getD i default)), h)
  | .seq a b, h =>
    let x := cCode P a h
    let y := cCode P b x.2
    (.seq x.1 y.1, y.2)
  | .cond c a b, h => match cX c with
    | some ax =>
      let x := cCode P a h
      let y := cCode P b x.2
      (.cond ax x.1 y.1, y.2)
    | none => (.fail, h)
  | .block id c, h =>
    let x := cCode P c h
    (.block id x.1, x.2)
  | .loop c, h =>
    let x := cCode P c h.tail
    (.loop (h.headD []) x.1, x.2)
  | .exit id, h => (.exit id, h)
  | .ret, h => (.ret, h)
  | .rangeFunc .., h | .scope _, h | .label _, h | .goto _, h | .refuse _, h => (.fail, h)

def Ex.of : Ex → Exit
  | .normal => .normal
  | .exit id => .exit id
  | .ret => .ret

/-- What code is to keep. -/
def CodeOk (P : Program) (C : ACalls) (K : Nat) (c : Code) (ac : ACode) : Prop :=
  ∀ (ι : Inj) (M : Heap) (e : Env) (a : Act) (w : World) (x : Ex) (e' : Env) (M' : Heap) (Q : Exit → Act → World → Prop), R ι M w → VRL ι e a.tmps.toList → a.defers = [] → aexec C K ac e M = some (x, e', M') →
    (∀ ι' a' w', Tr ι M w ι' M' w' → VRL ι' e' a'.tmps.toList → a'.defers = [] → Q x.of a' w') → c.wp P Q a w

theorem loop_rounds {P : Program} {C : ACalls} {K : Nat} {c : Code} {ac : ACode} {keep : List Nat} (hc : CodeOk P C K c ac) {Q : Exit → Act → World → Prop} : ∀ (k : Nat) (ι : Inj) (M : Heap) (e : Env) (a : Act) (w : World) (x : Ex) (e' : Env) (M' : Heap), R ι M w → VRL ι e a.tmps.toList → a.defers = [] →
    aloop (aexec C K ac) keep k e M = some (x, e', M') → (∀ ι' a' w', Tr ι M w ι' M' w' → VRL ι' e' a'.tmps.toList → a'.defers = [] → Q x.of a' w') → Code.rounds P c Q k a w
  | 0, ι, M, e, a, w, x, e', M', r, he, hd, h, hq => by simp [aloop] at h
  | k + 1, ι, M, e, a, w, x, e', M', r, he, hd, h, hq => by
    simp only [aloop] at h
    rw [rounds_succ]
    split at h
    · rename_i e1 M1 hb
      refine hc ι M _ a w _ _ _ _ r (he.keepOnly keep 0) hd hb fun ι1 a1 w1 ht hv hd1 => ?_
      simp only [Ex.of, Exit.then]
      exact loop_rounds hc k ι1 M1 e1 a1 w1 x e' M' ht.rel hv hd1 h fun ι2 a2 w2 ht2 => hq ι2 a2 w2 (ht.trans ht2)
    · rename_i hne
      refine hc ι M _ a w _ _ _ _ r (he.keepOnly keep 0) hd h fun ι1 a1 w1 ht hv hd1 => ?_
      have := hq ι1 a1 w1 ht hv hd1
      cases x with
      | normal => exact absurd h (hne e' M')
      | exit id => exact this
      | ret => exact this

theorem code_sound {P : Program} {C : ACalls} (hC : CallsOk P C) (K : Nat) : ∀ (c : Code) (h : Hints), CodeOk P C K c (cCode P c h).1
  | .skip, hs => by
    intro ι M e a w x e' M' Q r he hd h hq
    simp only [cCode, aexec, Option.some.injEq, Prod.mk.injEq] at h
    obtain ⟨rfl, rfl, rfl⟩ := h
    exact wp_skip (hq ι a w (Tr.refl r) he hd)
  | .region id ops true, hs => by
    intro ι M e a w x e' M' Q r he hd h hq
    simp only [cCode] at h
    cases hc : cDraw P ops with
    | dreg nk ds =>
      rw [hc] at h
      simp only [aexec] at h
      obtain ⟨p, hp, h⟩ := Option.map_eq_some_iff.1 h
      obtain ⟨e1, M1⟩ := p
      simp only [Prod.mk.injEq] at h
      obtain ⟨rfl, rfl, rfl⟩ := h
      exact draw_sound hC hc r he hd hp hq
    | fail => rw [hc] at h; simp [aexec] at h
    | _ =>
      unfold cDraw at hc
      simp only at hc
      split at hc <;> cases hc
  | .region id ops false, hs => by
    intro ι M e a w x e' M' Q r he hd h hq
    simp only [cCode, aexec] at h
    obtain ⟨⟨e1, M1⟩, hp, h⟩ := Option.map_eq_some_iff.1 h
    simp only [Prod.mk.injEq] at h
    obtain ⟨rfl, rfl, rfl⟩ := h
    exact wp_region (aops_sound hC _ ι M e a w _ _ (fun i hi => by simpa using hi) r he hd hp hq)
  | .seq c1 c2, hs => by
    intro ι M e a w x e' M' Q r he hd h hq
    simp only [cCode, aexec] at h
    refine wp_seq ?_
    split at h
    · rename_i e1 M1 h1
      refine code_sound hC K c1 hs ι M e a w _ _ _ _ r he hd h1 fun ι1 a1 w1 ht hv hd1 => ?_
      simp only [Ex.of, Exit.then]
      exact code_sound hC K c2 _ ι1 M1 e1 a1 w1 x e' M' Q ht.rel hv hd1 h fun ι2 a2 w2 ht2 => hq ι2 a2 w2 (ht.trans ht2)
    · rename_i hne
      refine code_sound hC K c1 hs ι M e a w _ _ _ _ r he hd h fun ι1 a1 w1 ht hv hd1 => ?_
      have := hq ι1 a1 w1 ht hv hd1
      cases x with
      | normal => exact absurd h (hne e' M')
      | exit id => exact this
      | ret => exact this
  | .cond c c1 c2, hs => by
    intro ι M e a w x e' M' Q r he hd h hq
    simp only [cCode] at h
    cases hx : cX c with
    | none => rw [hx] at h; simp [aexec] at h
    | some ax =>
      rw [hx] at h
      simp only [aexec] at h
      have hv := cX_VR hx he
      split at h
      · rename_i hb
        rw [hb] at hv
        simp only [VR] at hv
        exact wp_cond_true hv (code_sound hC K c1 _ ι M e a w x e' M' Q r he hd h hq)
      · rename_i hb
        rw [hb] at hv
        simp only [VR] at hv
        exact wp_cond_false hv (code_sound hC K c2 _ ι M e a w x e' M' Q r he hd h hq)
      · cases h
  | .block id c, hs => by
    intro ι M e a w x e' M' Q r he hd h hq
    simp only [cCode, aexec] at h
    refine wp_block ?_
    split at h
    · rename_i i e1 M1 h1
      refine code_sound hC K c hs ι M e a w _ _ _ _ r he hd h1 fun ι1 a1 w1 ht hv hd1 => ?_
      simp only [Ex.of, Exit.inBlock]
      split at h
      · rename_i hi
        simp only [Option.some.injEq, Prod.mk.injEq] at h
        obtain ⟨rfl, rfl, rfl⟩ := h
        rw [if_pos hi]
        exact hq ι1 a1 w1 ht hv hd1
      · rename_i hi
        simp only [Option.some.injEq, Prod.mk.injEq] at h
        obtain ⟨rfl, rfl, rfl⟩ := h
        rw [if_neg hi]
        exact hq ι1 a1 w1 ht hv hd1
    · rename_i hne
      refine code_sound hC K c hs ι M e a w _ _ _ _ r he hd h fun ι1 a1 w1 ht hv hd1 => ?_
      have := hq ι1 a1 w1 ht hv hd1
      cases x with
      | normal => exact this
      | exit i => exact absurd h (hne i e' M')
      | ret => exact this
  | .loop c, hs => by
    intro ι M e a w x e' M' Q r he hd h hq
    simp only [cCode, aexec] at h
    exact wp_loop_rounds K (loop_rounds (code_sound hC K c _) K ι M e a w x e' M' r he hd h hq)
  | .exit id, hs => by
    intro ι M e a w x e' M' Q r he hd h hq
    simp only [cCode, aexec, Option.some.injEq, Prod.mk.injEq] at h
    obtain ⟨rfl, rfl, rfl⟩ := h
    exact wp_exit (hq ι a w (Tr.refl r) he hd)
  | .ret, hs => by
    intro ι M e a w x e' M' Q r he hd h hq
    simp only [cCode, aexec, Option.some.injEq, Prod.mk.injEq] at h
    obtain ⟨rfl, rfl, rfl⟩ := h
    exact wp_ret (hq ι a w (Tr.refl r) he hd)
  | .rangeFunc .., hs => by
    intro ι M e a w x e' M' Q r he hd h hq
    simp [cCode, aexec] at h
  | .scope _, hs => by
    intro ι M e a w x e' M' Q r he hd h hq
    simp [cCode, aexec] at h
  | .label _, hs => by
    intro ι M e a w x e' M' Q r he hd h hq
    simp [cCode, aexec] at h
  | .goto _, hs => by
    intro ι M e a w x e' M' Q r he hd h hq
    simp [cCode, aexec] at h
  | .refuse _, hs => by
    intro ι M e a w x e' M' Q r he hd h hq
    simp [cCode, aexec] at h

end Go.Proofs.Ytachollgbplikaa
