/- The abstract machine, sixteenth part: regions, read off the program, and that they are right. -/
import Derived.Test.YtachollgbplikaaAm15
set_option linter.unusedVariables false
set_option linter.unusedSimpArgs false
namespace Go.Proofs.Ytachollgbplikaa

def cOper (P : Program) (ops : Array Oper) (o : Oper) : AOper :=
  match o.guard with
  | none => { dst := o.dst, op := cOp P o.op, guard := none }
  | some (j, want) => match (ops[j]?).bind (·.dst) with
    | some t => { dst := o.dst, op := cOp P o.op, guard := some (t, want) }
    | none => { dst := o.dst, op := .n .fail, guard := none }

theorem cOper_dst (P : Program) (ops : Array Oper) (o : Oper) : (cOper P ops o).dst = o.dst := by
  unfold cOper
  split
  · rfl
  · split <;> rfl

theorem cOper_ok {P : Program} {C : ACalls} (hC : CallsOk P C) (ops : Array Oper) (o : Oper) : OpOk P C o (cOper P ops o).op := by
  unfold cOper
  split
  · exact cOp_ok hC o
  · split
    · exact cOp_ok hC o
    · exact NOk.fail

theorem cOper_wanted {P : Program} (ops : Array Oper) (o : Oper) {e : Env} {a : Act} {ι : Inj} (he : VRL ι e a.tmps.toList) {b : Bool} (h : awanted (cOper P ops o).guard e = some b) : Region.wanted o (yielded ops a.tmps) = b ∨ ((cOper P ops o).op = .n .fail ∧ b = true) := by
  unfold cOper at h ⊢
  cases hg : o.guard with
  | none =>
    rw [hg] at h
    simp only [awanted, Option.some.injEq] at h
    subst h
    exact .inl (by simp [Region.wanted, hg])
  | some p =>
    obtain ⟨j, want⟩ := p
    rw [hg] at h
    simp only at h ⊢
    cases ht : (ops[j]?).bind (·.dst) with
    | none =>
      rw [ht] at h
      simp only [awanted, Option.some.injEq] at h
      subst h
      exact .inr ⟨rfl, rfl⟩
    | some t =>
      rw [ht] at h
      simp only [awanted] at h
      left
      have hr := he.getD t undef
      have hcell : ∀ v, a.tmps.toList.getD t undef = v → (t < a.tmps.size → a.tmps[t]? = some v) := by
        intro v hv hlt
        rw [List.getD_eq_getElem?_getD, Array.getElem?_toList] at hv
        have : a.tmps[t]? = some a.tmps[t] := by simp [hlt]
        rw [this] at hv ⊢
        simpa using hv
      have hlt : e.getD t .undef ≠ .undef → t < a.tmps.size := by
        intro hne
        rcases Nat.lt_or_ge t a.tmps.size with hc | hc
        · exact hc
        exfalso
        apply hne
        have hl : List.length e = a.tmps.size := by simpa using he.length
        have hle : List.length e ≤ t := by omega
        rw [List.getD_eq_getElem?_getD, List.getElem?_eq_none hle]
        rfl
      split at h
      · rename_i c hc
        rw [hc] at hr
        simp only [VR] at hr
        have := hcell _ hr (hlt (by rw [hc]; simp))
        obtain rfl := Option.some.inj h
        simp [Region.wanted, hg, yielded, ht, this]
      · rename_i vs hc
        rw [hc] at hr
        simp only [VR] at hr
        obtain ⟨ws, hr, _⟩ := hr
        have := hcell _ hr (hlt (by rw [hc]; simp))
        obtain rfl := Option.some.inj h
        simp [Region.wanted, hg, yielded, ht, this]
      · cases h

/-! ### A region in its own order -/

theorem aop_sound {P : Program} {C : ACalls} {o : Oper} {ao : AOp} (hok : OpOk P C o ao) {ι : Inj} {M M' : Heap} {e : Env} {a : Act} {w : World} {v : AV} {next : Act → World → Prop} {Q : Exit → Act → World → Prop} (r : R ι M w) (he : VRL ι e a.tmps.toList) (h : aop C ao e M = some (v, M'))
    (hn : ∀ ι' v' w', Tr ι M w ι' M' w' → VR ι' v v' → next (a.put o.dst v') w') : o.wp P a w next Q := by
  cases ao with
  | p po =>
    simp only [aop] at h
    obtain ⟨u, hu, h⟩ := Option.map_eq_some_iff.1 h
    simp only [Prod.mk.injEq] at h
    obtain ⟨rfl, rfl⟩ := h
    obtain ⟨v', h1, h2⟩ := hok ι e a w u he hu
    exact NOk.of_run h1 (hn ι v' w (Tr.refl r) h2)
  | l lo =>
    simp only [aop] at h
    obtain ⟨u, hu, h⟩ := Option.map_eq_some_iff.1 h
    simp only [Prod.mk.injEq] at h
    obtain ⟨rfl, rfl⟩ := h
    obtain ⟨v', h1, h2⟩ := hok ι M e a w u r he hu
    exact NOk.of_run h1 (hn ι v' w (Tr.refl r) h2)
  | k ko =>
    simp only [aop] at h
    obtain ⟨⟨x, mk⟩, hu, h⟩ := Option.map_eq_some_iff.1 h
    simp only [Prod.mk.injEq] at h
    obtain ⟨rfl, rfl⟩ := h
    obtain ⟨v', w', ob, N, h1, h2, h3, h4⟩ := hok ι e a w x mk he hu
    have hnone := (r.fresh M.next (Nat.le_refl _)).2
    obtain ⟨hb, hv⟩ := h4 M.next (ι.set M.next ⟨w.heap.size, 0, N⟩) (Inj.set_le hnone _) (by simp [Inj.set])
    exact NOk.of_run h1 (hn _ v' w' (Tr.push r h2 h3 hb) hv)
  | n no =>
    simp only [aop] at h
    exact hok ι M e a w v M' next Q r he h hn

theorem aops_sound {P : Program} {C : ACalls} (hC : CallsOk P C) {ops : Array Oper} {Q : Exit → Act → World → Prop} : ∀ (l : List Nat) (ι : Inj) (M : Heap) (e : Env) (a : Act) (w : World) (e' : Env) (M' : Heap), (∀ i, i ∈ l → i < ops.size) → R ι M w → VRL ι e a.tmps.toList → a.defers = [] →
    aops C (l.map fun i => cOper P ops (ops.getD i default)) e M = some (e', M') → (∀ ι' a' w', Tr ι M w ι' M' w' → VRL ι' e' a'.tmps.toList → a'.defers = [] → Q .normal a' w') → wpOps P ops Q l a w
  | [], ι, M, e, a, w, e', M', _, r, he, hd, h, hq => by
    simp only [List.map_nil, aops, Option.some.injEq, Prod.mk.injEq] at h
    obtain ⟨rfl, rfl⟩ := h
    exact hq ι a w (Tr.refl r) he hd
  | i :: l, ι, M, e, a, w, e', M', hlt, r, he, hd, h, hq => by
    have hi := hlt i (by simp)
    have ho : ops[i]? = some ops[i] := by simp [hi]
    have hg : ops.getD i default = ops[i] := by simp [Array.getD_eq_getD_getElem?, hi]
    simp only [List.map_cons, aops, hg] at h
    simp only [wpOps, ho]
    have hok := cOper_ok hC ops ops[i]
    split at h
    · rename_i hw
      obtain ⟨⟨v, M1⟩, hop, h⟩ := Option.bind_eq_some_iff.1 h
      have hwant : Region.wanted ops[i] (yielded ops a.tmps) = true := by
        rcases cOper_wanted (P := P) ops ops[i] he hw with hw' | ⟨hf, _⟩
        · exact hw'
        · rw [hf] at hop
          simp [aop, aN] at hop
      rw [if_pos hwant]
      left
      rw [cOper_dst] at h
      refine aop_sound hok r he hop fun ι1 v' w' ht hv => ?_
      exact aops_sound hC l ι1 M1 _ _ w' e' M' (fun j hj => hlt j (by simp [hj])) ht.rel (put_VRL (VRL.mono (ht.le r) _ _ he) hv) (by rw [put_defers]; exact hd) h fun ι2 a2 w2 ht2 => hq ι2 a2 w2 (ht.trans ht2)
    · rename_i hw
      have hwant : ¬ Region.wanted ops[i] (yielded ops a.tmps) = true := by
        rcases cOper_wanted (P := P) ops ops[i] he hw with hw' | ⟨_, hf⟩
        · simp [hw']
        · cases hf
      rw [if_neg hwant]
      rw [cOper_dst] at h
      exact aops_sound hC l ι M _ _ w e' M' (fun j hj => hlt j (by simp [hj])) r (put_VRL he (VR.unit ι)) (by rw [put_defers]; exact hd) h hq
    · cases h

/-! ### A region whose order is drawn -/

def preds (o : Oper) : List Nat := (o.after.toList.filter (Region.binds .any)).map (·.on)

def ancs : List Oper → List Nat → List Nat
  | [], acc => acc
  | o :: r, acc => ancs r (acc ++ [(preds o).foldl (fun x p => x ||| 2 ^ p ||| acc.getD p 0) 0])

/-- Each ancestor is one step away, or behind such a step. -/
def Good (ops : List Oper) (A : List Nat) : Prop := ∀ i a, (A.getD i 0).testBit a = true → ∃ o, ops[i]? = some o ∧ ∃ p, p ∈ preds o ∧ (a = p ∨ (p < i ∧ (A.getD p 0).testBit a = true))

theorem anc_fold (acc : List Nat) (a : Nat) : ∀ (l : List Nat) (x : Nat), (l.foldl (fun x p => x ||| 2 ^ p ||| acc.getD p 0) x).testBit a = true → x.testBit a = true ∨ ∃ p, p ∈ l ∧ (a = p ∨ (acc.getD p 0).testBit a = true)
  | [], x, h => .inl h
  | p :: l, x, h => by
    rw [List.foldl_cons] at h
    rcases anc_fold acc a l _ h with h | ⟨q, hq, h⟩
    · rw [Nat.testBit_or, Nat.testBit_or, Nat.testBit_two_pow, Bool.or_eq_true, Bool.or_eq_true, decide_eq_true_eq] at h
      rcases h with (h | h) | h
      · exact .inl h
      · exact .inr ⟨p, by simp, .inl h.symm⟩
      · exact .inr ⟨p, by simp, .inr h⟩
    · exact .inr ⟨q, by simp [hq], h⟩

theorem ancs_good (all : List Oper) : ∀ (r pre : List Oper) (acc : List Nat), all = pre ++ r → acc.length = pre.length → Good all acc → Good all (ancs r acc)
  | [], _, acc, _, _, h => h
  | o :: r, pre, acc, he, hl, h => by
    simp only [ancs]
    refine ancs_good all r (pre ++ [o]) _ (by simp [he]) (by simp [hl]) fun i a ha => ?_
    have hgd : ∀ j, j < acc.length → ∀ x, (acc ++ [x]).getD j 0 = acc.getD j 0 := fun j hj x => by
      simp [List.getD_eq_getElem?_getD, List.getElem?_append_left hj]
    rcases Nat.lt_or_ge i acc.length with hi | hi
    · rw [hgd i hi] at ha
      obtain ⟨o', h1, p, h2, h3⟩ := h i a ha
      refine ⟨o', h1, p, h2, h3.imp id fun ⟨h4, h5⟩ => ⟨h4, ?_⟩⟩
      rw [hgd p (by omega)]
      exact h5
    · rcases Nat.eq_or_lt_of_le hi with e | hi
      · subst e
        have e1 : (acc ++ [(preds o).foldl (fun x p => x ||| 2 ^ p ||| acc.getD p 0) 0]).getD acc.length 0 = (preds o).foldl (fun x p => x ||| 2 ^ p ||| acc.getD p 0) 0 := by
          simp [List.getD_eq_getElem?_getD]
        rw [e1] at ha
        rcases anc_fold acc a _ _ ha with ha | ⟨p, hp, ha⟩
        · simp at ha
        refine ⟨o, by rw [he, hl]; simp, p, hp, ?_⟩
        rcases ha with ha | ha
        · exact .inl ha
        · have hplt : p < acc.length := by
            refine Classical.byContradiction fun hc => ?_
            rw [List.getD_eq_getElem?_getD, List.getElem?_eq_none (by omega)] at ha
            simp at ha
          refine .inr ⟨hplt, ?_⟩
          rw [hgd p hplt]
          exact ha
      · rw [List.getD_eq_getElem?_getD, List.getElem?_eq_none (by simp; omega)] at ha
        simp at ha

theorem good_closed {ops : List Oper} {A : List Nat} (h : Good ops A) {S : Nat → Prop} (hS : ∀ i, S i → ∀ o, ops[i]? = some o → ∀ p, p ∈ preds o → S p) : ∀ i, S i → ∀ a, (A.getD i 0).testBit a = true → S a := by
  intro i
  induction i using Nat.strongRecOn with
  | _ i ih =>
    intro hi a ha
    obtain ⟨o, h1, p, h2, h3⟩ := h i a ha
    have hp := hS i hi o h1 p h2
    rcases h3 with rfl | ⟨h3, h4⟩
    · exact hp
    · exact ih p h3 hp a h4

/-- The machine's own order: ahead of each loud operation what it hangs on, and no more. -/
def dTau (A : List Nat) (loud : Nat → Bool) (n : Nat) : List Nat :=
  let acc := (List.range n).foldl (fun acc j => if loud j then acc ++ ((List.range n).filter fun i => (A.getD j 0).testBit i && !acc.contains i) ++ [j] else acc) []
  acc ++ (List.range n).filter fun i => !acc.contains i

def ancP (A : List Nat) (tau : List Nat) (p q : Nat) : Bool := (A.getD (tau.getD q 0) 0).testBit (tau.getD p 0)

def dList (P : Program) (ops : Array Oper) (A : List Nat) (tau : List Nat) : List DOper :=
  let aops := ops.toList.map (cOper P ops)
  let at_ (i : Nat) : AOper := aops.getD i { dst := none, op := .n .fail, guard := none }
  let louds := tau.filter fun i => (at_ i).op.loud
  let ks := tau.filter fun i => (at_ i).op.isK
  tau.map fun i => { o := at_ i, lo := (louds.takeWhile fun j => (A.getD i 0).testBit j).length, ix := ks.idxOf i }

/-- An operation with its place, its number, what it hangs on, what it reads, and how many loud ones are ahead. -/
structure DZ where
  d : DOper
  p : Nat
  i : Nat
  m : Nat
  r : Nat
  c : Nat

def rdMask (l : List Nat) : Nat := l.foldl (fun x t => x ||| 2 ^ t) 0

theorem rdMask_fold (t : Nat) : ∀ (l : List Nat) (x : Nat), (t ∈ l ∨ x.testBit t = true) → (l.foldl (fun x t => x ||| 2 ^ t) x).testBit t = true
  | [], x, h => by simpa using h
  | u :: l, x, h => by
    rw [List.foldl_cons]
    refine rdMask_fold t l _ ?_
    rcases h with h | h
    · rcases List.mem_cons.1 h with rfl | h
      · right
        rw [Nat.testBit_or, Nat.testBit_two_pow]
        simp
      · exact .inl h
    · right
      rw [Nat.testBit_or, h]
      simp

theorem rdMask_mem {t : Nat} {l : List Nat} (h : t ∈ l) : (rdMask l).testBit t = true := rdMask_fold t l 0 (.inl h)

def dzOf (A : List Nat) : List DOper → List Nat → Nat → Nat → List DZ
  | d :: ds, i :: tau, p, c => ⟨d, p, i, A.getD i 0, rdMask d.o.rd, c⟩ :: dzOf A ds tau (p + 1) (if d.o.op.loud then c + 1 else c)
  | _, _, _, _ => []

def cntL (ds : List DOper) (j : Nat) : Nat := ((ds.take j).filter fun d => d.o.op.loud).length

theorem cntL_eq (ds : List DOper) : ∀ j, j ≤ ds.length → cntLoud ds j = cntL ds j
  | 0, _ => by simp [cntLoud, cntL]
  | j + 1, h => by
    have ih := cntL_eq ds j (by omega)
    unfold cntLoud cntL at ih ⊢
    rw [List.range_succ, List.filter_append, List.length_append, ih, List.take_add_one, List.filter_append, List.length_append]
    congr 1
    have hj : ds[j]? = some ds[j] := List.getElem?_eq_getElem (by omega)
    simp only [hj, Option.toList_some, List.filter_cons, List.filter_nil, loudAt]
    split <;> rfl

theorem dzOf_get (A : List Nat) : ∀ (ds : List DOper) (tau : List Nat) (p c j : Nat) (d : DOper) (i : Nat), ds[j]? = some d → tau[j]? = some i → (dzOf A ds tau p c)[j]? = some ⟨d, p + j, i, A.getD i 0, rdMask d.o.rd, c + cntL ds j⟩
  | [], _, _, _, _, _, _, h, _ => by simp at h
  | _ :: _, [], _, _, _, _, _, _, h => by simp at h
  | d :: ds, i :: tau, p, c, 0, d', i', h1, h2 => by
    simp at h1 h2
    subst h1 h2
    simp [dzOf, cntL]
  | d :: ds, i :: tau, p, c, j + 1, d', i', h1, h2 => by
    simp only [List.getElem?_cons_succ] at h1 h2
    simp only [dzOf, List.getElem?_cons_succ]
    rw [dzOf_get A ds tau _ _ j d' i' h1 h2]
    simp only [Option.some.injEq, DZ.mk.injEq, true_and]
    refine ⟨by omega, ?_⟩
    simp only [cntL, List.take_succ_cons, List.filter_cons]
    cases d.o.op.loud <;> simp <;> omega

def dCheck (nk : Nat) (dz : List DZ) : Bool :=
  (dz.all fun p => dz.all fun q =>
    (!q.m.testBit p.i || decide (p.p < q.p)) &&
    (p.p == q.p || (
      (match p.d.o.dst with | some t => q.d.o.dst != some t | none => true) &&
      (match q.d.o.dst with | some t => !(p.r.testBit t) || p.m.testBit q.i || q.m.testBit p.i | none => true) &&
      (!(q.d.o.op.loud && decide (p.p < q.p) && !p.d.o.op.plain) || q.m.testBit p.i) &&
      (!(p.d.o.op.isL && q.d.o.op.loud && decide (q.p < p.p) && decide (q.c < p.d.lo)) || p.m.testBit q.i) &&
      (!(p.d.o.op.isK && q.d.o.op.isK) || p.d.ix != q.d.ix)))) &&
  (dz.all fun p => !p.d.o.op.isK || decide (p.d.ix < nk))

theorem dCheck_cond {nk : Nat} {ds : List DOper} {A tau : List Nat} (hlen : ds.length = tau.length) (h : dCheck nk (dzOf A ds tau 0 0) = true) : DCond nk ds (fun p q => p < ds.length ∧ q < ds.length ∧ ancP A tau p q = true) := by
  unfold dCheck at h
  simp only [Bool.and_eq_true, List.all_eq_true] at h
  obtain ⟨h1, h2⟩ := h
  have lt : ∀ p (d : DOper), ds[p]? = some d → p < ds.length := fun p d h => (List.getElem?_eq_some_iff.1 h).1
  have tg : ∀ p, p < ds.length → tau[p]? = some (tau.getD p 0) := fun p hp => by
    rw [List.getD_eq_getElem?_getD, List.getElem?_eq_getElem (by omega)]
    rfl
  have hm : ∀ (p : Nat) (d : DOper), ds[p]? = some d → (⟨d, p, tau.getD p 0, A.getD (tau.getD p 0) 0, rdMask d.o.rd, cntLoud ds p⟩ : DZ) ∈ dzOf A ds tau 0 0 := fun p d hp => by
    have := dzOf_get A ds tau 0 0 p d _ hp (tg p (lt p d hp))
    rw [Nat.zero_add, Nat.zero_add, ← cntL_eq ds p (Nat.le_of_lt (lt p d hp))] at this
    exact List.mem_of_getElem? this
  have H : ∀ (p q : Nat) (d d' : DOper), ds[p]? = some d → ds[q]? = some d' → _ := fun p q d d' hp hq => h1 _ (hm p d hp) _ (hm q d' hq)
  have or1 : ∀ {a b : Bool}, (a || b) = true → a = false → b = true := fun {a b} h1 h2 => by subst h2; simpa using h1
  have N : ∀ (p q : Nat) (d d' : DOper), ds[p]? = some d → ds[q]? = some d' → p ≠ q → _ := fun p q d d' hp hq hne => or1 (H p q d d' hp hq).2 (by simpa using hne)
  constructor
  · rintro p q ⟨hp, hq, ha⟩
    have := (H p q _ _ (List.getElem?_eq_getElem hp) (List.getElem?_eq_getElem hq)).1
    have ha' : (A.getD (tau.getD q 0) 0).testBit (tau.getD p 0) = true := ha
    rw [ha'] at this
    simpa using this
  · intro p q d d' t hp hq hne ht
    have := N p q d d' hp hq hne
    simp only [Bool.and_eq_true] at this
    have := this.1.1.1.1
    rw [ht] at this
    simpa using this
  · intro p q d d' t hp hq hne ht hr
    have := N p q d d' hp hq hne
    simp only [Bool.and_eq_true] at this
    have := this.1.1.1.2
    rw [ht] at this
    simp [rdMask_mem hr] at this
    exact this.imp (fun h => ⟨lt _ _ hq, lt _ _ hp, by simpa [ancP] using h⟩) (fun h => ⟨lt _ _ hp, lt _ _ hq, by simpa [ancP] using h⟩)
  · intro p q d d' hp hq hlt hl hpl
    have := N p q d d' hp hq (by omega)
    simp only [Bool.and_eq_true] at this
    have := this.1.1.2
    simp [hlt, hl, hpl] at this
    exact ⟨lt _ _ hp, lt _ _ hq, by simpa [ancP] using this⟩
  · intro p d q hp hl hlt hloud hc
    have hq : q < ds.length := by have := lt _ _ hp; omega
    have hq' := List.getElem?_eq_getElem hq
    have := N p q d _ hp hq' (by omega)
    simp only [Bool.and_eq_true] at this
    have := this.1.2
    have hl2 : ds[q].o.op.loud = true := by simpa [loudAt, hq'] using hloud
    simp [hl, hlt, hl2, hc] at this
    exact ⟨hq, lt _ _ hp, by simpa [ancP] using this⟩
  · intro p d hp hk
    have := h2 _ (hm p d hp)
    simpa [hk] using this
  · intro p q d d' hp hq hk hk' hix
    refine Classical.byContradiction fun hne => ?_
    have := N p q d d' hp hq hne
    simp only [Bool.and_eq_true] at this
    have := this.2
    simp [hk, hk', hix] at this

def cDraw (P : Program) (ops : Array Oper) : ACode :=
  let A := ancs ops.toList []
  let n := ops.size
  let aops := ops.toList.map (cOper P ops)
  let tau := dTau A (fun i => (aops.getD i { dst := none, op := .n .fail, guard := none }).op.loud) n
  let ds := dList P ops A tau
  let nk := (aops.filter fun o => o.op.isK).length
  if (edgesOk ops (List.range n) || edgesOk ops (Region.linearise .gc ops 0)) && (tau.length == n && decide tau.Nodup && (List.range n).all fun i => tau.contains i) && dCheck nk (dzOf A ds tau 0 0) then .dreg nk ds else .fail

end Go.Proofs.Ytachollgbplikaa
