/- The abstract machine, sixth part: loud operations: stores, append, copy, clear, calls. -/
import Derived.Test.YtachollgbplikaaAm5
set_option linter.unusedVariables false
set_option linter.unusedSimpArgs false
namespace Go.Proofs.Ytachollgbplikaa

/-! ### Turning a heap -/

/-- One block is another one; all else is as it was. -/
structure Turned (w w' : World) (j : Nat) (ob : Obj) : Prop where
  size : w'.heap.size = w.heap.size
  other : ∀ i, i ≠ j → w'.heap[i]? = w.heap[i]?
  new : w'.heap[j]? = some ob
  os : w'.os = w.os
  tape : w'.tape = w.tape
  output : w'.output = w.output

theorem put_get {M : Heap} {b : Nat} {x : Option Blk} (i : Nat) : (M.put b x).get i = if i = b then x else M.get i := rfl
theorem push_get {M : Heap} {x : Blk} (i : Nat) : (M.push x).get i = if i = M.next then some x else M.get i := rfl

def Inj.set (ι : Inj) (b : Nat) (l : Loc) : Inj := fun i => if i = b then some l else ι i

theorem Inj.set_le {ι : Inj} {b : Nat} (h : ι b = none) (l : Loc) : ι.Le (ι.set b l) := fun i x e => by
  unfold Inj.set
  split
  · rename_i hi
    subst hi
    rw [h] at e
    cases e
  · exact e

theorem R.lt {ι : Inj} {M : Heap} {w : World} (r : R ι M w) {b : Nat} {x : Blk} (h : M.get b = some x) : b < M.next := by
  rcases Nat.lt_or_ge b M.next with h1 | h1
  · exact h1
  · rw [(r.fresh b h1).1] at h
    cases h

theorem R.lt' {ι : Inj} {M : Heap} {w : World} (r : R ι M w) {b : Nat} {l : Loc} (h : ι b = some l) : b < M.next := by
  rcases Nat.lt_or_ge b M.next with h1 | h1
  · exact h1
  · rw [(r.fresh b h1).2] at h
    cases h

theorem R.heap_lt {ι : Inj} {M : Heap} {w : World} (r : R ι M w) {b : Nat} {x : Blk} {l : Loc} (h : M.get b = some x) (hl : ι b = some l) : l.j < w.heap.size := by
  obtain ⟨l', o, h1, h2, _⟩ := r.blk b x h
  rw [hl] at h1
  obtain rfl := Option.some.inj h1
  exact (Array.getElem?_eq_some_iff.1 h2).1

/-- A block of one's own is turned. -/
theorem Tr.update {ι : Inj} {M : Heap} {w w' : World} {b : Nat} {x x' : Blk} {l : Loc} {ob : Obj} (r : R ι M w) (hx : M.get b = some x) (ho : x.own = true) (ho' : x'.own = true) (hl : ι b = some l) (ht : Turned w w' l.j ob) (hb : BR ι x' l ob) :
    Tr ι M w ι (M.put b (some x')) w' where
  rel := {
    blk := fun i y hy => by
      rw [put_get] at hy
      split at hy
      · rename_i hi
        subst hi
        obtain rfl := Option.some.inj hy
        exact ⟨l, ob, hl, ht.new, hb⟩
      · rename_i hi
        obtain ⟨l', o, h1, h2, h3⟩ := r.blk i y hy
        refine ⟨l', o, h1, ?_, h3⟩
        rw [ht.other _ (r.apart i b y x l' l hy hx h1 hl hi (.inr ho))]
        exact h2
    apart := fun i i' y y' l1 l2 h1 h2 h3 h4 hne hor => by
      rw [put_get] at h1 h2
      split at h1
      · rename_i hi
        subst hi
        rw [if_neg (Ne.symm hne)] at h2
        exact r.apart i i' x y' l1 l2 hx h2 h3 h4 hne (.inl ho)
      · split at h2
        · rename_i hi'
          subst hi'
          exact r.apart i i' y x l1 l2 h1 hx h3 h4 hne (.inr ho)
        · exact r.apart i i' y y' l1 l2 h1 h2 h3 h4 hne hor
    fresh := fun i hi => by
      have h1 : i ≠ b := by
        have := r.lt hx
        simp only [Heap.put] at hi
        omega
      rw [put_get, if_neg h1]
      exact r.fresh i hi }
  agree _ _ := rfl
  next := Nat.le_refl _
  dead i hi hd := by
    rw [put_get]
    split
    · rename_i h
      subst h
      rw [hx] at hd
      cases hd
    · exact hd
  ro i y hy hro := by
    rw [put_get] at hy
    split at hy
    · obtain rfl := Option.some.inj hy
      rw [ho'] at hro
      cases hro
    · exact hy
  owned i y l1 h1 h2 h3 h4 := by
    rw [put_get] at h1
    split at h1
    · rename_i h
      subst h
      exact ⟨i, x, l1, hx, ho, h3, rfl⟩
    · exact ⟨i, y, l1, h1, h2, h3, rfl⟩
  keep j hj hn := ht.other j fun e => hn b x l hx ho hl e.symm
  size := by rw [ht.size]; exact Nat.le_refl _
  os := ht.os
  tape := ht.tape
  output := ht.output

/-- A new block. -/
theorem Tr.push {ι : Inj} {M : Heap} {w w' : World} {x : Blk} {N : Nat} {ob : Obj} (r : R ι M w) (ho : x.own = true) (hm : Made w w' ob) (hb : BR (ι.set M.next ⟨w.heap.size, 0, N⟩) x ⟨w.heap.size, 0, N⟩ ob) :
    Tr ι M w (ι.set M.next ⟨w.heap.size, 0, N⟩) (M.push x) w' := by
  have hnone := (r.fresh M.next (Nat.le_refl _)).2
  have hle := Inj.set_le hnone ⟨w.heap.size, 0, N⟩
  have hset : ∀ i, i ≠ M.next → (ι.set M.next ⟨w.heap.size, 0, N⟩) i = ι i := fun i hi => by simp [Inj.set, hi]
  have hself : (ι.set M.next ⟨w.heap.size, 0, N⟩) M.next = some ⟨w.heap.size, 0, N⟩ := by simp [Inj.set]
  have hget : ∀ i y, M.get i = some y → i ≠ M.next := fun i y h => by have := r.lt h; omega
  constructor
  · constructor
    · intro i y hy
      rw [push_get] at hy
      split at hy
      · rename_i hi
        subst hi
        obtain rfl := Option.some.inj hy
        exact ⟨_, ob, hself, hm.new, hb⟩
      · obtain ⟨l', o, h1, h2, h3⟩ := r.blk i y hy
        refine ⟨l', o, hle _ _ h1, ?_, h3.mono hle⟩
        rw [hm.old _ (r.heap_lt hy h1)]
        exact h2
    · intro i i' y y' l1 l2 h1 h2 h3 h4 hne hor
      rw [push_get] at h1 h2
      split at h1
      · rename_i hi
        subst hi
        rw [if_neg (Ne.symm hne)] at h2
        rw [hself] at h3
        obtain rfl := Option.some.inj h3
        rw [hset i' (Ne.symm hne)] at h4
        have := r.heap_lt h2 h4
        simp only
        omega
      · rename_i hi
        rw [hset i hi] at h3
        split at h2
        · rename_i hi'
          subst hi'
          rw [hself] at h4
          obtain rfl := Option.some.inj h4
          have := r.heap_lt h1 h3
          simp only
          omega
        · rename_i hi'
          rw [hset i' hi'] at h4
          exact r.apart i i' y y' l1 l2 h1 h2 h3 h4 hne hor
    · intro i hi
      simp only [Heap.push] at hi
      have h1 : i ≠ M.next := by omega
      rw [push_get, if_neg h1, hset i h1]
      exact r.fresh i (by omega)
  · intro i hi
    exact hset i (by omega)
  · simp [Heap.push]
  · intro i hi hd
    rw [push_get, if_neg (by omega)]
    exact hd
  · intro i y hy hro
    rw [push_get] at hy
    split at hy
    · obtain rfl := Option.some.inj hy
      rw [ho] at hro
      cases hro
    · exact hy
  · intro i y l1 h1 h2 h3 h4
    rw [push_get] at h1
    split at h1
    · rename_i hi
      subst hi
      rw [hself] at h3
      obtain rfl := Option.some.inj h3
      simp at h4
    · rename_i hi
      rw [hset i hi] at h3
      exact ⟨i, y, l1, h1, h2, h3, rfl⟩
  · intro j hj hn
    exact hm.old j hj
  · rw [hm.size]; omega
  · exact hm.os
  · exact hm.tape
  · exact hm.output

/-- A block is given up. -/
theorem Tr.kill {ι : Inj} {M : Heap} {w : World} (r : R ι M w) (b : Nat) (hb : b < M.next) : Tr ι M w ι (M.put b none) w where
  rel := {
    blk := fun i y hy => by
      rw [put_get] at hy
      split at hy
      · cases hy
      · exact r.blk i y hy
    apart := fun i i' y y' l1 l2 h1 h2 h3 h4 hne hor => by
      rw [put_get] at h1 h2
      split at h1
      · cases h1
      · split at h2
        · cases h2
        · exact r.apart i i' y y' l1 l2 h1 h2 h3 h4 hne hor
    fresh := fun i hi => by
      rw [put_get]
      split
      · exact ⟨rfl, (r.fresh i hi).2⟩
      · exact r.fresh i hi }
  agree _ _ := rfl
  next := Nat.le_refl _
  dead i hi hd := by
    rw [put_get]
    split
    · rfl
    · exact hd
  ro i y hy _ := by
    rw [put_get] at hy
    split at hy
    · cases hy
    · exact hy
  owned i y l1 h1 h2 h3 _ := by
    rw [put_get] at h1
    split at h1
    · cases h1
    · exact ⟨i, y, l1, h1, h2, h3, rfl⟩
  keep _ _ _ := rfl
  size := Nat.le_refl _
  os := rfl
  tape := rfl
  output := rfl

/-- A block is turned, and bears another name from now on. -/
theorem Tr.rename {ι : Inj} {M : Heap} {w w' : World} {b : Nat} {x x' : Blk} {l l' : Loc} {ob : Obj} (r : R ι M w) (hx : M.get b = some x) (ho : x.own = true) (ho' : x'.own = true) (hl : ι b = some l) (hj : l'.j = l.j) (ht : Turned w w' l.j ob)
    (hb : BR (ι.set M.next l') x' l' ob) : Tr ι M w (ι.set M.next l') ((M.put b none).push x') w' := by
  have hnone := (r.fresh M.next (Nat.le_refl _)).2
  have hle := Inj.set_le hnone l'
  have hset : ∀ i, i ≠ M.next → (ι.set M.next l') i = ι i := fun i hi => by simp [Inj.set, hi]
  have hself : (ι.set M.next l') M.next = some l' := by simp [Inj.set]
  have hg : ∀ i, ((M.put b none).push x').get i = if i = M.next then some x' else if i = b then none else M.get i := fun i => rfl
  constructor
  · constructor
    · intro i y hy
      rw [hg] at hy
      split at hy
      · rename_i hi
        subst hi
        obtain rfl := Option.some.inj hy
        exact ⟨_, ob, hself, by rw [hj]; exact ht.new, hb⟩
      · split at hy
        · cases hy
        rename_i hib
        obtain ⟨l1, o, h1, h2, h3⟩ := r.blk i y hy
        refine ⟨l1, o, hle _ _ h1, ?_, h3.mono hle⟩
        rw [ht.other _ (r.apart i b y x l1 l hy hx h1 hl hib (.inr ho))]
        exact h2
    · intro i i' y y' l1 l2 h1 h2 h3 h4 hne hor
      rw [hg] at h1 h2
      split at h1
      · rename_i hi
        subst hi
        rw [if_neg (Ne.symm hne)] at h2
        split at h2
        · cases h2
        rename_i hib
        rw [hself] at h3
        obtain rfl := Option.some.inj h3
        rw [hset i' (Ne.symm hne)] at h4
        rw [hj]
        exact r.apart b i' x y' l l2 hx h2 hl h4 (fun e => hib e.symm) (.inl ho)
      · rename_i hi
        split at h1
        · cases h1
        rename_i hib
        rw [hset i hi] at h3
        split at h2
        · rename_i hi'
          subst hi'
          rw [hself] at h4
          obtain rfl := Option.some.inj h4
          rw [hj]
          exact r.apart i b y x l1 l h1 hx h3 hl hib (.inr ho)
        · split at h2
          · cases h2
          rename_i hi' _
          rw [hset i' hi'] at h4
          exact r.apart i i' y y' l1 l2 h1 h2 h3 h4 hne hor
    · intro i hi
      have hi' : M.next + 1 ≤ i := hi
      have h1 : i ≠ M.next := by omega
      have h2 : i ≠ b := by have := r.lt hx; omega
      rw [hg, if_neg h1, if_neg h2, hset i h1]
      exact r.fresh i (by omega)
  · intro i hi
    exact hset i (by omega)
  · show M.next ≤ M.next + 1
    omega
  · intro i hi hd
    rw [hg, if_neg (by omega)]
    split
    · rfl
    · exact hd
  · intro i y hy hro
    rw [hg] at hy
    split at hy
    · obtain rfl := Option.some.inj hy
      rw [ho'] at hro
      cases hro
    · split at hy
      · cases hy
      · exact hy
  · intro i y l1 h1 h2 h3 h4
    rw [hg] at h1
    split at h1
    · rename_i hi
      subst hi
      rw [hself] at h3
      obtain rfl := Option.some.inj h3
      exact ⟨b, x, l, hx, ho, hl, hj.symm⟩
    · rename_i hi
      split at h1
      · cases h1
      · rw [hset i hi] at h3
        exact ⟨i, y, l1, h1, h2, h3, rfl⟩
  · intro j hj hn
    exact ht.other j fun e => hn b x l hx ho hl e.symm
  · rw [ht.size]; exact Nat.le_refl _
  · exact ht.os
  · exact ht.tape
  · exact ht.output

/-! ### Cells written -/

theorem setCell_turned {w : World} {j o : Nat} {cur : Array Value} {t : TypeId} {fz : Nat × Nat} (v : Value) (h : w.heap[j]? = some (.cells cur t fz)) : Turned w (w.setCell ⟨j, o, none⟩ v) j (.cells (cur.setIfInBounds o v) t fz) := by
  refine ⟨by simp, fun i hi => by simp [World.setCell, Array.getElem?_modify, Ne.symm hi], ?_, rfl, rfl, rfl⟩
  have hj := (Array.getElem?_eq_some_iff.1 h).1
  have he := (Array.getElem?_eq_some_iff.1 h).2
  simp [World.setCell, Array.getElem?_modify, h]

theorem Turned.trans {w w1 w2 : World} {j : Nat} {o1 o2 : Obj} (h : Turned w w1 j o1) (k : Turned w1 w2 j o2) : Turned w w2 j o2 :=
  ⟨k.size.trans h.size, fun i hi => (k.other i hi).trans (h.other i hi), k.new, k.os.trans h.os, k.tape.trans h.tape, k.output.trans h.output⟩

theorem storeCells_run {P : Program} {j o : Nat} {t : TypeId} {fz : Nat × Nat} : ∀ (vs : List Value) (i : Nat) (cur : Array Value) (w : World), w.heap[j]? = some (.cells cur t fz) → o + i + vs.length ≤ cur.size → (∀ v, v ∈ vs → v.oneCell' = true) →
    (∀ k, o + i ≤ k → k < o + i + vs.length → ¬ (fz.1 ≤ k ∧ k < fz.2)) → ∃ w' cur', (storeCells ⟨j, o, none⟩ vs i).run P w = .ok () w' ∧ (vs = [] → w' = w) ∧ (vs ≠ [] → Turned w w' j (.cells cur' t fz)) ∧ cur'.toList = cur.toList.take (o + i) ++ vs ++ cur.toList.drop (o + i + vs.length)
  | [], i, cur, w, h, hs, _, _ => ⟨w, cur, by simp [storeCells], fun _ => rfl, fun h => absurd rfl h, by simp⟩
  | v :: vs, i, cur, w, h, hs, hv, hf => by
    simp only [List.length_cons] at hs hf
    have hcell : w.cell? ⟨j, o + i, none⟩ = some cur[o + i] := cell_of h (by simp)
    have hfro : w.frozen? ⟨j, o + i, none⟩ = false := by
      have := hf (o + i) (Nat.le_refl _) (by omega)
      simp [World.frozen?, h]
      omega
    have hstep : (store (⟨j, o + i, none⟩ : Addr) v .plain).run P w = .ok () (w.setCell ⟨j, o + i, none⟩ v) := by
      rw [run_store P w _ v _ (hv v (by simp))]
      simp [hcell, hfro]
    have ht := setCell_turned (o := o + i) v h
    obtain ⟨w', cur', h1, h2, h3, h4⟩ := storeCells_run (P := P) (o := o) vs (i + 1) _ _ ht.new (by simp; omega) (fun u hu => hv u (by simp [hu])) (fun k hk hk' => hf k (by omega) (by omega))
    refine ⟨w', cur', ?_, fun h => by simp at h, fun _ => ?_, ?_⟩
    · simp only [storeCells, add_none, Sem.run_bind, hstep, Result.andThen_ok]
      exact h1
    · cases vs with
      | nil =>
        obtain rfl := h2 rfl
        have : cur' = cur.setIfInBounds (o + i) v := by
          apply Array.ext'
          rw [h4]
          simp
        rw [this]
        exact ht
      | cons u us => exact ht.trans (h3 (by simp))
    · rw [h4]
      simp only [Array.toList_setIfInBounds, List.length_cons]
      have e1 : (cur.toList.set (o + i) v).take (o + (i + 1)) = cur.toList.take (o + i) ++ [v] := by
        rw [show o + (i + 1) = o + i + 1 from by omega, List.take_add_one]
        simp [List.take_set_of_le, show o + i < cur.size from by omega]
      have e2 : (cur.toList.set (o + i) v).drop (o + (i + 1) + vs.length) = cur.toList.drop (o + i + (vs.length + 1)) := by
        rw [List.drop_set_of_lt (by omega)]
        congr 1; omega
      rw [e1, e2]
      simp

/-- A write within a block's own place. -/
theorem write_loc {P : Program} {ι : Inj} {M : Heap} {w : World} (r : R ι M w) {b : Nat} {c : List AV} {sl : Bool} (hb : M.get b = some (.cells c false sl)) {l : Loc} (hl : ι b = some l) {o : Nat} {vs : List Value} (hne : vs ≠ []) (ho : o + vs.length ≤ l.N) (hv : ∀ v, v ∈ vs → v.oneCell' = true) :
    ∃ w' cs cs' elem fz, (storeCells ⟨l.j, l.d + o, none⟩ vs).run P w = .ok () w' ∧ w.heap[l.j]? = some (.cells cs elem fz) ∧ Turned w w' l.j (.cells cs' elem fz) ∧ cs'.toList = cs.toList.take (l.d + o) ++ vs ++ cs.toList.drop (l.d + o + vs.length) ∧ BR ι (.cells c false sl) l (.cells cs elem fz) := by
  obtain ⟨l', ob, hl', hob, hbr⟩ := r.blk b _ hb
  rw [hl] at hl'
  obtain rfl := Option.some.inj hl'
  have hbr' := hbr
  obtain ⟨cs, elem, fz, rfl, h2, h3, h4, h5, h6⟩ := hbr
  obtain ⟨w', cs', g1, _, g3, g4⟩ := storeCells_run (P := P) (o := l.d + o) vs 0 cs w hob (by omega) hv (fun k hk hk' => by have := h6 rfl; omega)
  exact ⟨w', cs, cs', elem, fz, g1, hob, g3 hne, by simpa using g4, hbr'⟩

theorem VRL.oneCell {ι : Inj} {cs : List AV} {vs : List Value} (h : VRL ι cs vs) (hc : ∀ c, c ∈ cs → c.isCell = true) : ∀ v, v ∈ vs → v.oneCell' = true := fun v hv => by
  obtain ⟨i, hi⟩ := List.mem_iff_getElem?.1 hv
  have hlt : i < cs.length := by rw [h.length]; exact (List.getElem?_eq_some_iff.1 hi).1
  obtain ⟨v', hv', hr⟩ := h.get i cs[i] (by simp)
  rw [hi] at hv'
  obtain rfl := Option.some.inj hv'
  exact isCell_oneCell (hc _ (List.getElem_mem hlt)) hr

/-- A segment of cells is another one. -/
theorem BR.seg {ι : Inj} {c c' new : List AV} {sl sl' : Bool} {l : Loc} {cs cs' : Array Value} {elem : TypeId} {fz : Nat × Nat} {o : Nat} {vs : List Value} (h : BR ι (.cells c false sl) l (.cells cs elem fz)) (hnew : VRL ι new vs) (hc : ∀ a, a ∈ new → a.isCell = true) (ho : o + vs.length ≤ l.N)
    (hcs : cs'.toList = cs.toList.take (l.d + o) ++ vs ++ cs.toList.drop (l.d + o + vs.length)) (hlen : c'.length ≤ l.N) (hsl : sl' = false → c'.length = l.N)
    (hc' : ∀ i a, c'[i]? = some a → (o ≤ i ∧ i < o + new.length ∧ new[i - o]? = some a) ∨ ((i < o ∨ o + new.length ≤ i) ∧ c[i]? = some a)) : BR ι (.cells c' false sl') l (.cells cs' elem fz) := by
  obtain ⟨cs0, elem0, fz0, e, h2, h3, h4, h5, h6⟩ := h
  obtain ⟨rfl, rfl, rfl⟩ : cs0 = cs ∧ elem0 = elem ∧ fz0 = fz := by injection e with e1 e2 e3; exact ⟨e1.symm, e2.symm, e3.symm⟩
  have hvl := hnew.length
  have hsz : cs'.size = cs0.size := by
    have := congrArg List.length hcs
    simp at this
    omega
  refine ⟨cs', elem0, fz0, rfl, by omega, hlen, hsl, fun i a hi => ?_, fun hr => by rw [hsz]; exact h6 hr⟩
  rcases hc' i a hi with ⟨q1, q2, q3⟩ | ⟨q1, q2⟩
  · obtain ⟨v, hv, hr⟩ := hnew.get _ a q3
    refine ⟨v, ?_, hc a (List.mem_of_getElem? q3), hr⟩
    rw [← Array.getElem?_toList, hcs, List.append_assoc, List.getElem?_append_right (by simp; omega), List.getElem?_append_left (by simp; omega)]
    have : l.d + i - (cs0.toList.take (l.d + o)).length = i - o := by simp; omega
    rw [this]
    exact hv
  · obtain ⟨v, hv, hcell, hr⟩ := h5 i a q2
    refine ⟨v, ?_, hcell, hr⟩
    rw [← Array.getElem?_toList, hcs, List.append_assoc]
    rw [← Array.getElem?_toList] at hv
    rcases q1 with q1 | q1
    · rw [List.getElem?_append_left (by simp; have := (List.getElem?_eq_some_iff.1 hv).1; simp at this; omega), List.getElem?_take, if_pos (by omega)]
      exact hv
    · rw [List.getElem?_append_right (by simp; omega), List.getElem?_append_right (by simp; omega), List.getElem?_drop]
      have : l.d + o + vs.length + (l.d + i - (cs0.toList.take (l.d + o)).length - vs.length) = l.d + i := by simp; omega
      rw [this]
      exact hv

/-- The machine's write is the model's. -/
theorem write_run {P : Program} {ι : Inj} {M M' : Heap} {w : World} (r : R ι M w) {b o : Nat} {new : List AV} (h : M.write b o new = some M') {vs : List Value} (hnew : VRL ι new vs) (hc : ∀ a, a ∈ new → a.isCell = true) :
    ∃ l w', ι b = some l ∧ (storeCells ⟨l.j, l.d + o, none⟩ vs).run P w = .ok () w' ∧ Tr ι M w ι M' w' := by
  unfold Heap.write at h
  split at h
  case h_2 => cases h
  rename_i c sl hb
  split at h
  case isFalse => cases h
  rename_i hle
  obtain rfl := Option.some.inj h
  obtain ⟨l, ob, hl, hob, hbr⟩ := r.blk b _ hb
  have hN : c.length ≤ l.N := by obtain ⟨_, _, _, _, _, h3, _⟩ := hbr; exact h3
  have hvl := hnew.length
  refine ⟨l, ?_⟩
  cases hv : vs with
  | nil =>
    subst hv
    have hn0 : new = [] := by cases new with | nil => rfl | cons _ _ => simp at hvl
    subst hn0
    refine ⟨w, hl, by simp [storeCells], ?_⟩
    have e : (M.put b (some (.cells (c.take o ++ [] ++ c.drop (o + ([] : List AV).length)) false sl))) = M := by
      unfold Heap.put
      cases M with
      | mk g n =>
        congr
        funext i
        split
        · rename_i hi
          subst hi
          simp only at hb
          rw [hb]
          simp
        · rfl
    rw [e]
    exact Tr.refl r
  | cons u us =>
    rw [← hv]
    have hne : vs ≠ [] := by rw [hv]; simp
    obtain ⟨w', cs, cs', elem, fz, g1, g2, g3, g4, g5⟩ := write_loc (P := P) r hb hl (o := o) hne (by omega) (hnew.oneCell hc)
    refine ⟨w', hl, g1, Tr.update r hb rfl rfl hl g3 (BR.seg g5 hnew hc (by omega) g4 (by simp; omega) (fun hs => ?_) ?_)⟩
    · obtain ⟨_, _, _, _, _, _, h4, _⟩ := hbr
      have := h4 hs
      simp
      omega
    · intro i a hi
      rw [List.append_assoc, List.getElem?_append] at hi
      split at hi
      · rename_i h1
        simp at h1
        rw [List.getElem?_take, if_pos (by omega)] at hi
        exact .inr ⟨.inl (by omega), hi⟩
      · rename_i h1
        simp at h1
        have htl : (c.take o).length = o := by simp; omega
        rw [htl, List.getElem?_append] at hi
        split at hi
        · rename_i h2
          exact .inl ⟨by omega, by omega, hi⟩
        · rename_i h2
          rw [List.getElem?_drop] at hi
          refine .inr ⟨.inr (by omega), ?_⟩
          rw [← hi]
          congr 1
          omega

end Go.Proofs.Ytachollgbplikaa
