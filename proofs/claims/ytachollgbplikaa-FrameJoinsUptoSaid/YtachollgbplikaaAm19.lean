/- The abstract machine, nineteenth part: the law's row: what a call that turns nothing old and tells true is to the statement. -/
import Derived.Test.YtachollgbplikaaAm18
import Derived.ProofKit
import Derived.OpenShut
import Derived.ChangeOld
import Derived.Below
import Derived.Carry
import Derived.SizedLaws
import Derived.Deep.CondSized
set_option linter.unusedVariables false
set_option linter.unusedSimpArgs false
namespace Go.Proofs.Ytachollgbplikaa
open Go.ChangeShapes Go.WideShapes Go.ChangeAt Go.RowKit

theorem trodAll_below {H : Type} {enc : TypeId × Value → H} {P : Program} (hl : laidOutB P = true) {W W' : World} (bel : Below W.heap.size W W') :
    ∀ (ts : List TypeId) (vs : List Value) (ds : List (DataW H)) (p : List MemPlace), (ts.all fun t => P.readableRec t && decide (t < P.types.size)) = true →
      DataW.TrodAll enc P W 0 (fun _ => true) true ts vs ds p → DataW.TrodAll enc P W' 0 (fun b => decide (b < W.heap.size)) true ts vs ds p
  | [], [], [], p, _, h => by simpa [DataW.TrodAll] using h
  | t :: ts, v :: vs, d :: ds, p, ht, h => by
    simp only [List.all_cons, Bool.and_eq_true, decide_eq_true_eq] at ht
    simp only [DataW.TrodAll] at h ⊢
    obtain ⟨p1, p2, h1, h2, rfl⟩ := h
    refine ⟨p1, p2, ?_, trodAll_below hl bel ts vs ds p2 (by simpa using ht.2) h2, rfl⟩
    refine Below.trod hl ht.1.1 ht.1.2 h1 bel ?_
    obtain ⟨n, hn⟩ := h1
    exact DataW.trod_lt n t _ _ hn
  | [], _ :: _, _, _, _, h => by simp [DataW.TrodAll] at h
  | [], [], _ :: _, _, _, h => by simp [DataW.TrodAll] at h
  | _ :: _, [], _, _, _, h => by simp [DataW.TrodAll] at h
  | _ :: _, _ :: _, [], _, _, h => by simp [DataW.TrodAll] at h

theorem law_post {H : Type} {enc : TypeId × Value → H} {P : Program} {f : Func} {s : ChangeSpec} {W W' : World} {args : Array Value} {ds gs : List (DataW H)} {before : List MemPlace} {rt : TypeId}
    (hl : laidOutB P = true) (hps : (f.params.toList.all fun t => P.readableRec t && decide (t < P.types.size)) = true) (hvars : s.vars = []) (hres : f.resultTypes = #[rt]) (hrt : P.underlying rt = some .bool)
    (hfn : s.fn H ds = { results := [.lit (.bool true)], args := ds })
    (hW : DataW.Whole enc P f.params.toList s.vars false W args.toList ds gs before) (bel : Below W.heap.size W W') :
    s.post enc P f false true false false W args (.bool true) W' := by
  have hW' := hW
  obtain ⟨p, q, hA, hV, rfl, hfz, hnd⟩ := hW
  rw [hvars] at hV
  have hgs : gs = [] := by
    cases gs with
    | nil => rfl
    | cons _ _ => simp [DataW.TrodVars] at hV
  subst hgs
  unfold ChangeSpec.post
  refine ⟨ds, [], _, [], p, [], hW', ?_, ?_, ?_, bel.frame _, fun h => by cases h⟩
  · rw [List.append_nil, hfn, hres]
    exact trodAll_mk1 (shut_bool hrt _)
  · rw [List.append_nil, hfn]
    exact trodAll_below hl bel _ _ _ _ hps hA
  · rw [List.append_nil, hfn, hvars]
    simp [DataW.TrodVars]

/-- What is only read is as it was. -/
theorem below_of_tr {ι ι' : Inj} {M M' : Heap} {w w' : World} (ht : Tr ι M w ι' M' w') (hro : ∀ b x, M.get b = some x → x.own = false) : Below w.heap.size w w' :=
  ⟨ht.os, ht.tape, ht.output, ht.size, fun k hk => ht.keep k hk fun b x l h1 h2 => by rw [hro b x h1] at h2; cases h2⟩

theorem R.empty (w : World) : R (fun _ => none) Heap.empty w := ⟨fun b x h => by simp [Heap.empty] at h, fun b b' x x' l l' h => by simp [Heap.empty] at h, fun b _ => ⟨rfl, rfl⟩⟩

/-- A function without parameters that tells true, run upon nothing. -/
theorem closed_calls {P : Program} {f : FuncId} {g : List AV → Heap → Option (AV × Heap)} (hs : Sound P f g) {M' : Heap} (h : g [] Heap.empty = some (.bool true, M')) (w : World) :
    Calls P f #[] w fun e w' => e = .returned (.bool true) ∧ Below w.heap.size w w' := by
  refine (hs [] Heap.empty _ M' h (fun _ => none) w #[] (R.empty w) (by simp [VRL])).mono ?_
  rintro e w' ⟨ι', v', rfl, hv, ht⟩
  simp only [VR] at hv
  subst hv
  exact ⟨rfl, below_of_tr ht fun b x h => by simp [Heap.empty] at h⟩

/-- What a result is, without its memory. -/
def tellsTrue (r : Option (AV × Heap)) : Bool := match r with
  | some (.bool b, _) => b
  | _ => false

theorem tellsTrue_iff {r : Option (AV × Heap)} (h : tellsTrue r = true) : ∃ M', r = some (.bool true, M') := by
  unfold tellsTrue at h
  split at h
  · rename_i b M
    subst h
    exact ⟨M, rfl⟩
  · cases h

end Go.Proofs.Ytachollgbplikaa
