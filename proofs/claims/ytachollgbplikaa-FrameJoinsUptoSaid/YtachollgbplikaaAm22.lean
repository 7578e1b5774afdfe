/- The abstract machine, twenty-second part: a law with parameters: what is to be shown of the machine alone. -/
import Derived.Test.YtachollgbplikaaAm21
set_option linter.unusedVariables false
set_option linter.unusedSimpArgs false
namespace Go.Proofs.Ytachollgbplikaa
open Go.ChangeShapes Go.WideShapes Go.ChangeAt Go.RowKit

/-- An argument: an aggregate is one value. -/
def RdArg (M : Heap) (a : AV) : D → Prop
  | .agg l => ∃ cs, a = .agg cs ∧ Rd M (.agg l) cs
  | d => Rd M d [a]

theorem RdArg.mono {M M' : Heap} (h : M.Sub M') {a : AV} {d : D} (r : RdArg M a d) : RdArg M' a d := by
  cases d with
  | agg l =>
    obtain ⟨cs, h1, h2⟩ := r
    exact ⟨cs, h1, h2.mono h⟩
  | _ => exact Rd.mono h _ _ r

def Args (M : Heap) : List AV → List D → Prop
  | [], [] => True
  | a :: as, d :: ds => RdArg M a d ∧ Args M as ds
  | _, _ => False

theorem Args.mono {M M' : Heap} (h : M.Sub M') : ∀ {as : List AV} {ds : List D}, Args M as ds → Args M' as ds
  | [], [], _ => by simp [Args]
  | _ :: _, _ :: _, e => by
    simp only [Args] at e ⊢
    exact ⟨e.1.mono h, e.2.mono h⟩
  | [], _ :: _, e => by simp [Args] at e
  | _ :: _, [], e => by simp [Args] at e

theorem open_arg {H : Type} {enc : TypeId × Value → H} {P : Program} (hl : laidOutB P = true) {W : World} {k base : Nat} {t : TypeId} {s : Sh} (hs : shOf P k t = some s) (ht : t < P.types.size) {v : Value} {d : DataW H} {ps : List MemPlace}
    (hval : Value.okWide P W .any base t v) (h : DataW.Trod enc P W 0 (fun _ => true) true t v d ps) {ι : Inj} {M : Heap} (r : R ι M W) (ro : ReadOnly M) :
    ∃ ι' M' a, Grow ι M ι' M' W ∧ VR ι' a v ∧ RdArg M' a (toD d) ∧ D.is s (toD d) := by
  obtain ⟨fuel, hf⟩ := h
  obtain ⟨ι', M', avs, g, hv, _, hr, hi⟩ := open_trod hl k t s hs ht fuel _ _ hf ι M r ro
  simp only at hr hi
  have one : v.cells = #[v] → (∀ l, toD d ≠ .agg l) → ∃ ι' M' a, Grow ι M ι' M' W ∧ VR ι' a v ∧ RdArg M' a (toD d) ∧ D.is s (toD d) := by
    intro e1 e2
    rw [e1] at hv
    match avs, hv, hr with
    | [a], hv, hr =>
      simp only [VRL] at hv
      refine ⟨ι', M', a, g, hv.1, ?_, hi⟩
      cases hd : toD d with
      | agg l => exact absurd hd (e2 l)
      | _ => rw [hd] at hr; exact hr
    | [], hv, _ => simp [VRL] at hv
    | _ :: _ :: _, hv, _ => simp [VRL] at hv
  have many : (∃ cs, v = .agg cs) → (∃ l, toD d = .agg l) → ∃ ι' M' a, Grow ι M ι' M' W ∧ VR ι' a v ∧ RdArg M' a (toD d) ∧ D.is s (toD d) := by
    rintro ⟨cs, rfl⟩ ⟨l, hd⟩
    refine ⟨ι', M', .agg avs, g, ?_, ?_, hi⟩
    · simp only [VR]
      exact ⟨cs, rfl, by simpa [Value.cells] using hv⟩
    · rw [hd] at hr ⊢
      exact ⟨avs, rfl, hr⟩
  cases k with
  | zero => simp [shOf] at hs
  | succ k =>
    simp only [shOf] at hs
    split at hs
    case h_7 => cases hs
    · rename_i hu
      obtain rfl := Option.some.inj hs
      obtain ⟨b, rfl⟩ := okWide_bool hu hval
      obtain ⟨x, hx⟩ := hi
      exact one rfl fun l hl => by rw [hx] at hl; cases hl
    · rename_i i hu
      obtain rfl := Option.some.inj hs
      obtain ⟨b, rfl⟩ := okWide_int hu hval
      obtain ⟨x, hx, _⟩ := hi
      exact one rfl fun l hl => by rw [hx] at hl; cases hl
    · rename_i hu
      obtain rfl := Option.some.inj hs
      obtain ⟨b, rfl⟩ := okWide_string hu hval
      obtain ⟨x, hx⟩ := hi
      exact one rfl fun l hl => by rw [hx] at hl; cases hl
    · rename_i e hu
      split at hs
      · cases hs
      obtain ⟨se, hse, rfl⟩ := Option.map_eq_some_iff.1 hs
      obtain ⟨a, len, cap, rfl⟩ := okWide_slice hu hval
      obtain ⟨x, hx, _⟩ := hi
      exact one rfl fun l hl => by rw [hx] at hl; cases hl
    · rename_i fs hu
      obtain ⟨ss, hss, rfl⟩ := Option.map_eq_some_iff.1 hs
      obtain ⟨cs, hcs, _⟩ := okWide_struct hu hval
      obtain ⟨x, hx, _⟩ := hi
      exact many ⟨cs, hcs⟩ ⟨x, hx⟩
    · rename_i n e hu
      obtain ⟨se, hse, rfl⟩ := Option.map_eq_some_iff.1 hs
      simp only [Value.okWide, hu] at hval
      obtain ⟨cs, hcs, _⟩ := hval
      obtain ⟨x, hx, _⟩ := hi
      exact many ⟨cs, hcs⟩ ⟨x, hx⟩

theorem open_all {H : Type} {enc : TypeId × Value → H} {P : Program} (hl : laidOutB P = true) {W : World} {k base : Nat} :
    ∀ (ts : List TypeId) (ss : List Sh) (vs : List Value) (ds : List (DataW H)) (p : List MemPlace), shOfs P k ts = some ss → (ts.all fun t => decide (t < P.types.size)) = true →
      (∀ (j : Nat) t v, ts[j]? = some t → vs[j]? = some v → Value.okWide P W .any base t v) → DataW.TrodAll enc P W 0 (fun _ => true) true ts vs ds p →
      ∀ ι M, R ι M W → ReadOnly M → ∃ ι' M' as, Grow ι M ι' M' W ∧ VRL ι' as vs ∧ Args M' as (ds.map toD) ∧ D.are ss (ds.map toD)
  | [], ss, [], [], p, hs, _, _, _, ι, M, r, ro => by
    simp [shOfs, mapO] at hs
    subst hs
    exact ⟨ι, M, [], .refl r ro, by simp [VRL], by simp [Args], by simp [D.are]⟩
  | t :: ts, ss, v :: vs, d :: ds, p, hs, ht, hval, h, ι, M, r, ro => by
    simp only [shOfs, mapO] at hs
    split at hs
    case h_2 => cases hs
    rename_i s sr h1 h2
    obtain rfl := Option.some.inj hs
    simp only [List.all_cons, Bool.and_eq_true, decide_eq_true_eq] at ht
    simp only [DataW.TrodAll] at h
    obtain ⟨p1, p2, g1, g2, _⟩ := h
    obtain ⟨ι1, M1, a, q1, q2, q3, q4⟩ := open_arg hl h1 ht.1 (hval 0 t v (by simp) (by simp)) g1 r ro
    obtain ⟨ι2, M2, as, w1, w2, w3, w4⟩ := open_all hl ts sr vs ds p2 h2 (by simpa using ht.2) (fun j t v a b => hval (j + 1) t v (by simpa using a) (by simpa using b)) g2 ι1 M1 q1.rel q1.ro
    refine ⟨ι2, M2, a :: as, q1.trans w1, ?_, ?_, ?_⟩
    · simp only [VRL]
      exact ⟨q2.mono w1.le, w2⟩
    · simp only [List.map_cons, Args]
      exact ⟨q3.mono w1.sub, w3⟩
    · simp only [List.map_cons, D.are]
      exact ⟨q4, w4⟩
  | [], _, _ :: _, _, _, _, _, _, h, _, _, _, _ => by simp [DataW.TrodAll] at h
  | [], _, [], _ :: _, _, _, _, _, h, _, _, _, _ => by simp [DataW.TrodAll] at h
  | _ :: _, _, [], _, _, _, _, _, h, _, _, _, _ => by simp [DataW.TrodAll] at h
  | _ :: _, _, _ :: _, [], _, _, _, _, h, _, _, _, _ => by simp [DataW.TrodAll] at h

mutual
def D.bulk : D → Nat
  | .str s => s.length + 1
  | .list l => D.bulks l + 1
  | .agg l => D.bulks l + 1
  | .other => 0
  | _ => 1
def D.bulks : List D → Nat
  | [] => 0
  | d :: r => D.bulk d + D.bulks r
end

/-- Beyond the last number there is no block. -/
def Heap.Wf (M : Heap) : Prop := ∀ b, M.next ≤ b → M.get b = none

/-- What is to be shown of the machine: over whatever is read, of this bulk, it tells true. -/
def PureLaw (g : List AV → Heap → Option (AV × Heap)) (ss : List Sh) (small : Nat) : Prop :=
  ∀ (ds : List D) (as : List AV) (M : Heap), D.are ss ds → D.bulks ds ≤ small → ReadOnly M → M.Wf → Args M as ds → tellsTrue (g as M) = true

theorem open_calls {H : Type} {enc : TypeId × Value → H} {P : Program} (hl : laidOutB P = true) {f : FuncId} {g : List AV → Heap → Option (AV × Heap)} (hg : Sound P f g) {ss : List Sh} {small : Nat} (hp : PureLaw g ss small)
    {W : World} {k base : Nat} {ts : List TypeId} {args : Array Value} {ds : List (DataW H)} {p : List MemPlace} (hs : shOfs P k ts = some ss) (ht : (ts.all fun t => decide (t < P.types.size)) = true)
    (hval : ∀ (j : Nat) t v, ts[j]? = some t → args.toList[j]? = some v → Value.okWide P W .any base t v) (hA : DataW.TrodAll enc P W 0 (fun _ => true) true ts args.toList ds p) (hb : D.bulks (ds.map toD) ≤ small) :
    Calls P f args W fun e W' => e = .returned (.bool true) ∧ Below W.heap.size W W' := by
  obtain ⟨ι, M, as, g1, g2, g3, g4⟩ := open_all hl ts ss args.toList ds p hs ht hval hA _ _ (R.empty W) (fun b x h => by simp [Heap.empty] at h)
  obtain ⟨M', hM⟩ := tellsTrue_iff (hp _ as M g4 hb g1.ro (fun b hb => (g1.rel.fresh b hb).1) g3)
  refine (hg as M _ M' hM ι W args g1.rel g2).mono ?_
  rintro e w' ⟨ι', v', rfl, hv, htr⟩
  simp only [VR] at hv
  subst hv
  exact ⟨rfl, below_of_tr htr g1.ro⟩

end Go.Proofs.Ytachollgbplikaa
