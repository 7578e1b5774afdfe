/- The abstract machine, eleventh part: the core of the drawn regions, over places in the machine's own order. -/
import Derived.Test.YtachollgbplikaaAm10
set_option linter.unusedVariables false
set_option linter.unusedSimpArgs false
namespace Go.Proofs.Ytachollgbplikaa

def Heap.over (M : Heap) (X : Nat → Option Blk) : Heap := { M with get := fun i => match X i with | some x => some x | none => M.get i }

theorem over_some {M : Heap} {X : Nat → Option Blk} {i : Nat} {x : Blk} (h : X i = some x) : (M.over X).get i = some x := by simp [Heap.over, h]
theorem over_none {M : Heap} {X : Nat → Option Blk} {i : Nat} (h : X i = none) : (M.over X).get i = M.get i := by simp [Heap.over, h]

theorem R.sub {ι : Inj} {X Y : Heap} {w : World} (r : R ι Y w) (h : X.Sub Y) (hn : X.next = Y.next) : R ι X w where
  blk b x hx := r.blk b x (h b x hx)
  apart b b' x x' l l' h1 h2 := r.apart b b' x x' l l' (h _ _ h1) (h _ _ h2)
  fresh b hb := by
    have := r.fresh b (hn ▸ hb)
    refine ⟨?_, this.2⟩
    cases hx : X.get b with
    | none => rfl
    | some x => rw [h b x hx] at this; cases this.1

/-- What a step does not know of stays. -/
theorem Tr.frame {ι ι' : Inj} {M M' : Heap} {w w' : World} {X : Nat → Option Blk} (r : R ι (M.over X) w) (hX : ∀ i x, X i = some x → M.get i = none ∧ i < M.next ∧ x.own = true) (t : Tr ι M w ι' M' w') : Tr ι (M.over X) w ι' (M'.over X) w' := by
  have hMX : ∀ b x, M.get b = some x → X b = none := fun b x h => by
    cases hb : X b with
    | none => rfl
    | some y => rw [(hX b y hb).1] at h; cases h
  have hsub : M.Sub (M.over X) := fun b x h => by rw [over_none (hMX b x h)]; exact h
  have rM : R ι M w := r.sub hsub rfl
  have hle := t.le rM
  have hkeepX : ∀ i x l, X i = some x → ι i = some l → w'.heap[l.j]? = w.heap[l.j]? := fun i x l h hl =>
    t.keep l.j (r.heap_lt (over_some h) hl) fun b x' l' h1 h2 h3 => r.apart b i x' x l' l (hsub _ _ h1) (over_some h) h3 hl (fun e => by subst e; rw [(hX _ _ h).1] at h1; cases h1) (.inl h2)
  have mixed : ∀ i i' x x' l l', X i = some x → M'.get i' = some x' → ι i = some l → ι' i' = some l' → l.j ≠ l'.j := by
    intro i i' x x' l l' h1 h2 h3 h4 e
    have hlt := r.heap_lt (over_some h1) h3
    cases ho : x'.own with
    | true =>
      obtain ⟨b0, x0, l0, c1, c2, c3, c4⟩ := t.owned i' x' l' h2 ho h4 (e ▸ hlt)
      exact r.apart i b0 x x0 l l0 (over_some h1) (hsub _ _ c1) h3 c3 (fun e => by subst e; rw [(hX _ _ h1).1] at c1; cases c1) (.inr c2) (by rw [c4, e])
    | false =>
      have hm := t.ro i' x' h2 ho
      have h4' : ι i' = some l' := by rw [← t.agree i' (rM.lt hm)]; exact h4
      exact r.apart i i' x x' l l' (over_some h1) (hsub _ _ hm) h3 h4' (fun e => by subst e; rw [(hX _ _ h1).1] at hm; cases hm) (.inl (hX _ _ h1).2.2) e
  have agX : ∀ i x, X i = some x → ι' i = ι i := fun i x h => t.agree i (hX i x h).2.1
  constructor
  · constructor
    · intro i x hx
      cases hi : X i with
      | some y =>
        rw [over_some hi] at hx
        obtain rfl := Option.some.inj hx
        obtain ⟨l, o, h1, h2, h3⟩ := r.blk i y (over_some hi)
        exact ⟨l, o, hle _ _ h1, by rw [hkeepX i y l hi h1]; exact h2, h3.mono hle⟩
      | none =>
        rw [over_none hi] at hx
        exact t.rel.blk i x hx
    · intro i i' x x' l l' h1 h2 h3 h4 hne hor
      cases hi : X i with
      | some y =>
        rw [over_some hi] at h1
        obtain rfl := Option.some.inj h1
        rw [agX i y hi] at h3
        cases hi' : X i' with
        | some y' =>
          rw [over_some hi'] at h2
          obtain rfl := Option.some.inj h2
          rw [agX i' y' hi'] at h4
          exact r.apart i i' y y' l l' (over_some hi) (over_some hi') h3 h4 hne hor
        | none =>
          rw [over_none hi'] at h2
          exact mixed i i' y x' l l' hi h2 h3 h4
      | none =>
        rw [over_none hi] at h1
        cases hi' : X i' with
        | some y' =>
          rw [over_some hi'] at h2
          obtain rfl := Option.some.inj h2
          rw [agX i' y' hi'] at h4
          exact fun e => mixed i' i y' x l' l hi' h1 h4 h3 e.symm
        | none =>
          rw [over_none hi'] at h2
          exact t.rel.apart i i' x x' l l' h1 h2 h3 h4 hne hor
    · intro i hi
      have hxi : X i = none := by
        cases hx : X i with
        | none => rfl
        | some x =>
          have h1 := (hX i x hx).2.1
          have h2 := t.next
          have h3 : M'.next ≤ i := hi
          omega
      rw [over_none hxi]
      exact t.rel.fresh i hi
  · exact t.agree
  · exact t.next
  · intro i hi hd
    cases hx : X i with
    | some x => rw [over_some hx] at hd; cases hd
    | none =>
      rw [over_none hx] at hd ⊢
      exact t.dead i hi hd
  · intro i x hx ho
    cases hi : X i with
    | some y =>
      rw [over_some hi] at hx
      obtain rfl := Option.some.inj hx
      rw [(hX i y hi).2.2] at ho
      cases ho
    | none =>
      rw [over_none hi] at hx ⊢
      exact t.ro i x hx ho
  · intro i x l h1 h2 h3 h4
    cases hi : X i with
    | some y =>
      rw [over_some hi] at h1
      obtain rfl := Option.some.inj h1
      exact ⟨i, y, l, over_some hi, h2, by rw [← agX i y hi]; exact h3, rfl⟩
    | none =>
      rw [over_none hi] at h1
      obtain ⟨b0, x0, l0, c1, c2, c3, c4⟩ := t.owned i x l h1 h2 h3 h4
      exact ⟨b0, x0, l0, hsub _ _ c1, c2, c3, c4⟩
  · intro j hj hn
    exact t.keep j hj fun b x l h1 h2 h3 => hn b x l (hsub _ _ h1) h2 h3
  · exact t.size
  · exact t.os
  · exact t.tape
  · exact t.output

/-- A block comes to stand in a slot that was kept for it. -/
theorem Tr.slot {ι0 ι : Inj} {M0 X : Heap} {w0 w w' : World} (t : Tr ι0 M0 w0 ι X w) {id N : Nat} (h0 : M0.next ≤ id) (hlt : id < X.next) (hx : X.get id = none) (hi : ι id = none) {x : Blk} {ob : Obj} (ho : x.own = true) (hm : Made w w' ob)
    (hb : BR (ι.set id ⟨w.heap.size, 0, N⟩) x ⟨w.heap.size, 0, N⟩ ob) : Tr ι0 M0 w0 (ι.set id ⟨w.heap.size, 0, N⟩) (X.put id (some x)) w' := by
  have r := t.rel
  have hle := Inj.set_le hi ⟨w.heap.size, 0, N⟩
  have hset : ∀ i, i ≠ id → (ι.set id ⟨w.heap.size, 0, N⟩) i = ι i := fun i hi => by simp [Inj.set, hi]
  have hself : (ι.set id ⟨w.heap.size, 0, N⟩) id = some ⟨w.heap.size, 0, N⟩ := by simp [Inj.set]
  constructor
  · constructor
    · intro i y hy
      rw [put_get] at hy
      split at hy
      · rename_i hi
        subst hi
        obtain rfl := Option.some.inj hy
        exact ⟨_, ob, hself, hm.new, hb⟩
      · obtain ⟨l', o, h1, h2, h3⟩ := r.blk i y hy
        refine ⟨l', o, hle _ _ h1, ?_, h3.mono hle⟩
        rw [hm.old _ (r.heap_lt hy h1)]
        exact h2
    · intro i i' y y' l1 l2 h1 h2 h3 h4 hne hor
      rw [put_get] at h1 h2
      split at h1
      · rename_i hi
        subst hi
        rw [if_neg (Ne.symm hne)] at h2
        rw [hself] at h3
        obtain rfl := Option.some.inj h3
        rw [hset i' (Ne.symm hne)] at h4
        have := r.heap_lt h2 h4
        simp only
        omega
      · rename_i hi
        rw [hset i hi] at h3
        split at h2
        · rename_i hi'
          subst hi'
          rw [hself] at h4
          obtain rfl := Option.some.inj h4
          have := r.heap_lt h1 h3
          simp only
          omega
        · rename_i hi'
          rw [hset i' hi'] at h4
          exact r.apart i i' y y' l1 l2 h1 h2 h3 h4 hne hor
    · intro i hi
      have hi' : X.next ≤ i := hi
      have h2 : i ≠ id := by omega
      rw [put_get, if_neg h2, hset i h2]
      exact r.fresh i hi'
  · intro i hi
    rw [hset i (by omega)]
    exact t.agree i hi
  · exact t.next
  · intro i hi hd
    rw [put_get, if_neg (by omega)]
    exact t.dead i hi hd
  · intro i y hy hro
    rw [put_get] at hy
    split at hy
    · obtain rfl := Option.some.inj hy
      rw [ho] at hro
      cases hro
    · exact t.ro i y hy hro
  · intro i y l1 h1 h2 h3 h4
    rw [put_get] at h1
    split at h1
    · rename_i hi
      subst hi
      rw [hself] at h3
      obtain rfl := Option.some.inj h3
      have := t.size
      simp at h4
      omega
    · rename_i hi
      rw [hset i hi] at h3
      exact t.owned i y l1 h1 h2 h3 h4
  · intro j hj hn
    rw [hm.old j (by have := t.size; omega)]
    exact t.keep j hj hn
  · rw [hm.size]
    have := t.size
    omega
  · exact hm.os.trans t.os
  · exact hm.tape.trans t.tape
  · exact hm.output.trans t.output

/-! ### The machine's own run -/

def AOp.loud : AOp → Bool
  | .n _ => true
  | _ => false

def AOp.plain : AOp → Bool
  | .p _ => true
  | _ => false

structure DStep (C : ACalls) (base nk : Nat) (d : DOper) (e : Env) (M : Heap) (g : List Heap) (v : AV) (b : Bool) (blk : Option Blk) (e' : Env) (M' : Heap) (g' : List Heap) : Prop where
  env : e' = aput d.o.dst v e
  want : awanted d.o.guard e = some b
  hist : g' = if d.o.op.loud then g ++ [M] else g
  no : b = false → v = .tuple [] ∧ M' = M ∧ blk = none
  p : ∀ o, b = true → d.o.op = .p o → aP o e = some v ∧ M' = M ∧ blk = none
  l : ∀ o, b = true → d.o.op = .l o → aL o e (M.hide base nk) = some v ∧ M' = M ∧ blk = none ∧ ∀ k H, d.lo ≤ k → g[k]? = some H → aL o e (H.hide base nk) = some v
  k : ∀ o, b = true → d.o.op = .k o → ∃ x mk, aK o e = some (x, mk) ∧ v = mk.val (base + d.ix) ∧ M' = M.put (base + d.ix) (some x) ∧ blk = some x
  n : ∀ o, b = true → d.o.op = .n o → aN C o e M = some (v, M') ∧ blk = none

structure DRun (C : ACalls) (base nk : Nat) (ds : List DOper) (E : Nat → Env) (H : Nat → Heap) (G : Nat → List Heap) (V : Nat → AV) (W : Nat → Bool) (B : Nat → Option Blk) : Prop where
  step : ∀ p d, ds[p]? = some d → DStep C base nk d (E p) (H p) (G p) (V p) (W p) (B p) (E (p + 1)) (H (p + 1)) (G (p + 1))

theorem drun_of {C : ACalls} {base nk : Nat} : ∀ (ds : List DOper) (e : Env) (M : Heap) (g : List Heap) (e' : Env) (M' : Heap), adops C base nk ds e M g = some (e', M') →
    ∃ E H G V W B, DRun C base nk ds E H G V W B ∧ E 0 = e ∧ H 0 = M ∧ G 0 = g ∧ E ds.length = e' ∧ H ds.length = M'
  | [], e, M, g, e', M', h => by
    simp only [adops, Option.some.injEq, Prod.mk.injEq] at h
    obtain ⟨rfl, rfl⟩ := h
    exact ⟨fun _ => e, fun _ => M, fun _ => g, fun _ => .undef, fun _ => true, fun _ => none, ⟨fun p d h => by simp at h⟩, rfl, rfl, rfl, rfl, rfl⟩
  | d :: ds, e, M, g, e', M', h => by
    have cont : ∀ (v : AV) (b : Bool) (blk : Option Blk) (e1 : Env) (M1 : Heap) (g1 : List Heap), DStep C base nk d e M g v b blk e1 M1 g1 → adops C base nk ds e1 M1 g1 = some (e', M') →
        ∃ E H G V W B, DRun C base nk (d :: ds) E H G V W B ∧ E 0 = e ∧ H 0 = M ∧ G 0 = g ∧ E (d :: ds).length = e' ∧ H (d :: ds).length = M' := by
      intro v b blk e1 M1 g1 hs hr
      obtain ⟨E, H, G, V, W, B, hd, q1, q2, q3, q4, q5⟩ := drun_of ds e1 M1 g1 e' M' hr
      refine ⟨fun p => match p with | 0 => e | p + 1 => E p, fun p => match p with | 0 => M | p + 1 => H p, fun p => match p with | 0 => g | p + 1 => G p, fun p => match p with | 0 => v | p + 1 => V p, fun p => match p with | 0 => b | p + 1 => W p, fun p => match p with | 0 => blk | p + 1 => B p, ⟨fun p d' hp => ?_⟩, rfl, rfl, rfl, by simpa using q4, by simpa using q5⟩
      cases p with
      | zero =>
        simp at hp
        subst hp
        simp only [q1, q2, q3]
        exact hs
      | succ p => exact hd.step p d' (by simpa using hp)
    simp only [adops] at h
    split at h
    · rename_i hw
      split at h
      · rename_i o ho
        obtain ⟨v, hv, h⟩ := Option.bind_eq_some_iff.1 h
        refine cont v true none _ _ _ ?_ h
        constructor
        · rfl
        · exact hw
        · simp [ho, AOp.loud]
        · intro hb; cases hb
        · intro o' _ ho'
          rw [ho] at ho'
          injection ho' with ho'
          subst ho'
          exact ⟨hv, rfl, rfl⟩
        · intro o' _ ho'; rw [ho] at ho'; cases ho'
        · intro o' _ ho'; rw [ho] at ho'; cases ho'
        · intro o' _ ho'; rw [ho] at ho'; cases ho'
      · rename_i o ho
        obtain ⟨v, hv, h⟩ := Option.bind_eq_some_iff.1 h
        split at h
        case isFalse => cases h
        rename_i hall
        refine cont v true none _ _ _ ?_ h
        constructor
        · rfl
        · exact hw
        · simp [ho, AOp.loud]
        · intro hb; cases hb
        · intro o' _ ho'; rw [ho] at ho'; cases ho'
        · intro o' _ ho'
          rw [ho] at ho'
          injection ho' with ho'
          subst ho'
          refine ⟨hv, rfl, rfl, fun k X hk hX => ?_⟩
          have hmem : X ∈ g.drop d.lo := by
            refine List.mem_iff_getElem?.2 ⟨k - d.lo, ?_⟩
            rw [List.getElem?_drop]
            rw [show d.lo + (k - d.lo) = k from by omega]
            exact hX
          have := List.all_eq_true.1 hall X hmem
          split at this
          · rename_i u hu
            rw [hu, AV.eq_of_same _ _ this]
          · cases this
        · intro o' _ ho'; rw [ho] at ho'; cases ho'
        · intro o' _ ho'; rw [ho] at ho'; cases ho'
      · rename_i o ho
        obtain ⟨⟨x, mk⟩, hv, h⟩ := Option.bind_eq_some_iff.1 h
        refine cont (mk.val (base + d.ix)) true (some x) _ _ _ ?_ h
        constructor
        · rfl
        · exact hw
        · simp [ho, AOp.loud]
        · intro hb; cases hb
        · intro o' _ ho'; rw [ho] at ho'; cases ho'
        · intro o' _ ho'; rw [ho] at ho'; cases ho'
        · intro o' _ ho'
          rw [ho] at ho'
          injection ho' with ho'
          subst ho'
          exact ⟨x, mk, hv, rfl, rfl, rfl⟩
        · intro o' _ ho'; rw [ho] at ho'; cases ho'
      · rename_i o ho
        obtain ⟨⟨v, M1⟩, hv, h⟩ := Option.bind_eq_some_iff.1 h
        refine cont v true none _ M1 _ ?_ h
        constructor
        · rfl
        · exact hw
        · simp [ho, AOp.loud]
        · intro hb; cases hb
        · intro o' _ ho'; rw [ho] at ho'; cases ho'
        · intro o' _ ho'; rw [ho] at ho'; cases ho'
        · intro o' _ ho'; rw [ho] at ho'; cases ho'
        · intro o' _ ho'
          rw [ho] at ho'
          injection ho' with ho'
          subst ho'
          exact ⟨hv, rfl⟩
    · rename_i hw
      refine cont (.tuple []) false none _ _ _ ?_ h
      constructor
      · rfl
      · exact hw
      · cases ho : d.o.op <;> simp [AOp.loud]
      · intro _; exact ⟨rfl, rfl, rfl⟩
      · intro _ hb; cases hb
      · intro _ hb; cases hb
      · intro _ hb; cases hb
      · intro _ hb; cases hb
    · cases h

end Go.Proofs.Ytachollgbplikaa
