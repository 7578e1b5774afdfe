/- V, tenth part: slices.Clone. -/
import Derived.Test.YtachollgbplikaaAm33
set_option linter.all false
namespace Go.Proofs.Ytachollgbplikaa

theorem VS.pushA {ι : VI} {H M : Heap} (s : VS ι H M) (y : Blk) : VS ι H (M.push y) ∧ Stp H.next ι M ι (M.push y) := by
  have hk : Keeps M (own ι) (M.push y) (own ι) := ⟨Nat.le_succ _, fun b hb ho => ⟨by simp [Heap.push, Nat.ne_of_lt hb], ho⟩⟩
  refine ⟨⟨fun i j h => ?_, s.inj, fun i x hx => ?_, s.solt, s.ice, s.okH, fun b hb => ?_⟩, ⟨hk, fun _ _ => ⟨rfl, rfl⟩, fun _ _ h => h⟩⟩
  · have := s.lt i j h
    simp only [Heap.push]
    omega
  · rcases s.blk i x hx with h | ⟨j, h1, h2, h3⟩
    · exact .inl h
    refine .inr ⟨j, h1, ?_, h3⟩
    have := (s.lt i j h1).2
    simp only [Heap.push, if_neg (show j ≠ M.next by omega)]
    exact h2.mono hk (fun _ => .refl _ _)
  · simp only [Heap.push] at hb ⊢
    rw [if_neg (by omega)]
    exact s.okM b (by omega)

def cloneF (sz bytes : Nat) (zero : List AV) : AFunc := { nargs := 1, ntmps := 8, code := (.seq (.reg [{ dst := (some 2), op := (.p (.move (.c (.slice none sz 0 0 true)))), guard := none }]) (.seq (.seq (.reg [{ dst := (some 3), op := (.p (.move (.t 0))), guard := none }, { dst := (some 4), op := (.p (.eqN false (.t 3) (.c (.slice none sz 0 0 true)))), guard := none }]) (.cond (.t 4) (.seq (.reg [{ dst := (some 2), op := (.p (.move (.c (.slice none sz 0 0 true)))), guard := none }]) .ret) .skip)) (.seq (.reg [{ dst := (some 5), op := (.k (.buildSlice sz 0 zero [])), guard := none }, { dst := (some 6), op := (.p (.move (.t 0))), guard := none }, { dst := (some 7), op := (.n (.append sz bytes (.t 5) (.t 6))), guard := none }, { dst := (some 2), op := (.p (.move (.t 7))), guard := none }]) .ret))), results := [(.tmp 2)] }

theorem clone_nil (C : ACalls) (K sz bytes : Nat) (zero : List AV) (M : Heap) (sz' len cap : Nat) (ex : Bool) :
    bbody C K (cloneF sz bytes zero) [.slice none sz' len cap ex] M = some (.slice none sz 0 0 true, M) := by
  simp [bbody, cloneF, start, List.replicate, List.replicate_succ, bexec_seq, bexec_reg, bops_cons, bops_nil, look_cons, bput_some, AOp.sub, POp.sub, AX.sub, aop, aP, aEqN, AX.ev, bexec, bResults, bResL, bRes]

theorem clone_some (C : ACalls) (K sz bytes : Nat) (zero : List AV) (M : Heap) (q : Nat × Nat) (len cap : Nat) (ex : Bool) (n : Nat) (cs : List AV) (he : aElems (.slice (some q) sz len cap ex) (M.push (.cells [] false false)) = some (n, cs)) (hn : n * bytes ≤ 70368744177664 ∧ n ≤ 70368744177664) :
    bbody C K (cloneF sz bytes zero) [.slice (some q) sz len cap ex] M = if n = 0 then some (.slice (some (M.next, 0)) sz 0 0 true, M.push (.cells [] false false)) else some (.slice (some (M.next + 1, 0)) sz n n false, (M.push (.cells [] false false)).push (.cells cs false true)) := by
  have hap : aAppend sz bytes (.slice (some (M.next, 0)) sz 0 0 true) n cs (M.push (.cells [] false false)) = if n = 0 then some (.slice (some (M.next, 0)) sz 0 0 true, M.push (.cells [] false false)) else some (.slice (some (M.next + 1, 0)) sz n n false, (M.push (.cells [] false false)).push (.cells cs false true)) := by
    unfold aAppend
    by_cases h0 : n = 0
    · subst h0
      simp
    · simp only
      rw [if_neg (by simp), if_neg (by omega), if_pos (by simpa using hn), if_neg h0]
      simp [push_next]
  by_cases h0 : n = 0
  · subst h0
    simp only [if_true] at hap ⊢
    simp [bbody, cloneF, start, List.replicate, List.replicate_succ, bexec_seq, bexec_reg, bops_cons, bops_nil, AOp.sub, POp.sub, KOp.sub, NOp.sub, AX.sub, bexec, look_cons, bput_some, aop, aP, aK, aN, aEqN, AX.ev, reps, aFill, Mk.val, aElemSize, he, hap, bResults, bResL, bRes]
  · simp only [if_neg h0] at hap ⊢
    simp [bbody, cloneF, start, List.replicate, List.replicate_succ, bexec_seq, bexec_reg, bops_cons, bops_nil, AOp.sub, POp.sub, KOp.sub, NOp.sub, AX.sub, bexec, look_cons, bput_some, aop, aP, aK, aN, aEqN, AX.ev, reps, aFill, Mk.val, aElemSize, he, hap, bResults, bResL, bRes]

theorem clone_ok (sz bytes : Nat) (zero : List AV) : VSum (cloneSem sz bytes) (cloneF sz bytes zero) := by
  intro C K fr ι H M vs as r s hm hv h
  unfold cloneSem at h
  split at h
  case h_2 => cases h
  rename_i v
  match as, hv with
  | [], hv => simp [VLL] at hv
  | _ :: _ :: _, hv => simp [VLL] at hv
  | [a], hv =>
  simp only [VLL] at hv
  replace hv := hv.1
  split at h
  · cases h
  rename_i hstr
  split at h
  case isFalse => cases h
  rename_i hsz
  obtain ⟨⟨n, cs⟩, he, h⟩ := Option.bind_eq_some_iff.1 h
  simp only at h
  split at h
  case isFalse => cases h
  rename_i hf
  obtain rfl := Option.some.inj h
  have hsz' := vElemSize_rel hv hsz
  obtain ⟨s1, k1⟩ := s.pushA (.cells [] false false)
  have hv1 := VL.step s k1 hv
  obtain ⟨cs', he', hcs⟩ := vElems_rel s1 hv1 he
  have r1 : Res fr H.next ι H M ι H (M.push (.cells [] false false)) := ⟨s1, k1, Guar.refl _ _, Nat.le_refl _⟩
  -- which it is
  have hcase : (∃ s' l c x, a = .slice none s' l c x) ∨ ∃ q l c x, a = .slice (some q) sz l c x := by
    cases v with
    | slice p s' l c x =>
      cases p with
      | none => simp only [VL] at hv; exact .inl ⟨_, _, _, _, hv⟩
      | some q =>
        simp only [VL] at hv
        obtain ⟨j, _, rfl⟩ := hv
        simp [aElemSize] at hsz'
        subst hsz'
        exact .inr ⟨_, _, _, _, rfl⟩
    | list s' l c x =>
      simp only [VL] at hv
      rcases hv with ⟨_, _, _, rfl⟩ | ⟨b, o, cap, ex', rfl, _⟩
      · exact .inl ⟨_, _, _, _, rfl⟩
      · simp [aElemSize] at hsz'
        subst hsz'
        exact .inr ⟨_, _, _, _, rfl⟩
    | acc b o s' l w =>
      simp only [VL] at hv
      obtain ⟨p, s', cap, ex, rfl, g1, _⟩ := hv
      cases p with
      | none => exact .inl ⟨_, _, _, _, rfl⟩
      | some q =>
        simp [aElemSize] at hsz'
        subst hsz'
        exact .inr ⟨_, _, _, _, rfl⟩
    | str t => exact absurd rfl (hstr t)
    | _ => simp [vElemSize, aElemSize] at hsz
  rcases hcase with ⟨s', l, c, x, rfl⟩ | ⟨q, l, c, x, rfl⟩
  · simp only [aElems, Option.some.injEq, Prod.mk.injEq] at he'
    simp only [aElemSize, beq_iff_eq] at hsz'
    obtain ⟨rfl, rfl⟩ := he'
    subst hsz'
    obtain rfl := vElems_zero s hv he
    rw [clone_nil]
    exact s.new_sol hm _ _ _ (by simp)
  · by_cases hn : n = 0
    · subst hn
      obtain rfl := vElems_zero s hv he
      rw [clone_some C K sz bytes zero M q l c x 0 cs' he' (by simp)]
      exact NRel.after r1 (s1.new_sol hm _ _ _ (fun _ => rfl))
    · rw [clone_some C K sz bytes zero M q l c x n cs' he' (fitsB_iff hf), if_neg hn]
      exact NRel.after r1 (s1.new_acc (fr := fr) hm hcs sz n false true)

/-! ### slices.Clip -/

def clipF (sz : Nat) : AFunc := { nargs := 1, ntmps := 9, code := (.seq (.reg [{ dst := (some 2), op := (.p (.move (.c (.slice none 1 0 0 true)))), guard := none }]) (.seq (.reg [{ dst := (some 3), op := (.p (.move (.t 0))), guard := none }, { dst := (some 4), op := (.p (.move (.t 0))), guard := none }, { dst := (some 5), op := (.p (.len false (.t 4))), guard := none }, { dst := (some 6), op := (.p (.move (.t 0))), guard := none }, { dst := (some 7), op := (.p (.len false (.t 6))), guard := none }, { dst := (some 8), op := (.p (.slice sz (.t 3) none (some (.t 5)) (some (.t 7)))), guard := none }, { dst := (some 2), op := (.p (.move (.t 8))), guard := none }]) .ret)), results := [(.tmp 2)] }

theorem clip_run (C : ACalls) (K sz : Nat) (M : Heap) (p : Option (Nat × Nat)) (s' n cap : Nat) (ex : Bool) (hn : n ≤ cap) (hp : p ≠ none → s' = sz) :
    bbody C K (clipF sz) [.slice p s' n cap ex] M = some (.slice p sz n n true, M) := by
  have hs : aSlice sz p s' n cap ex [] none (some (.c (.int .i64 n))) (some (.c (.int .i64 n))) = some (.slice p sz n n true) := by
    unfold aSlice
    rw [if_pos (by cases p with
      | none => exact .inl rfl
      | some p => exact .inr (hp (by simp)))]
    have h1 : (0 : Int) ≤ n := by omega
    have h2 : (n : Int) ≤ cap := by omega
    have h3 : aShift p 0 = p := by cases p <;> rfl
    simp [aBoundO, aBound, AX.ev, h1, h2, h3]
  simp [bbody, clipF, start, List.replicate, List.replicate_succ, bexec_seq, bexec_reg, bops_cons, bops_nil, look_cons, bput_some, AOp.sub, POp.sub, AX.sub, AX.subO, aop, aP, AX.ev, bexec, hs, bResults, bResL, bRes]

theorem clip_ok (sz : Nat) : VSum (clipSem sz) (clipF sz) := by
  intro C K fr ι H M vs as r s hm hv h
  unfold clipSem at h
  split at h
  case h_4 => cases h
  · match as, hv with
    | [], hv => simp [VLL] at hv
    | _ :: _ :: _, hv => simp [VLL] at hv
    | [a], hv =>
    simp only [VLL] at hv
    replace hv := hv.1
    simp only [VL] at hv
    subst hv
    obtain rfl := Option.some.inj h
    rw [clip_run C K sz M none _ 0 0 true (Nat.le_refl _) (by simp)]
    exact NRel.quiet s (by simp [VL])
  · match as, hv with
    | [], hv => simp [VLL] at hv
    | _ :: _ :: _, hv => simp [VLL] at hv
    | [a], hv =>
    simp only [VLL] at hv
    replace hv := hv.1
    split at h
    case isFalse => cases h
    rename_i e
    subst e
    obtain rfl := Option.some.inj h
    simp only [VL] at hv
    rcases hv with ⟨rfl, rfl, s', rfl⟩ | ⟨b, o, cap, ex', rfl, h1, h2, h3, h4⟩
    · rw [clip_run C K _ M none _ 0 0 true (Nat.le_refl _) (by simp)]
      exact NRel.quiet s (by simp [VL])
    · rw [clip_run C K _ M (some (b, o)) _ _ cap ex' h1 (fun _ => rfl)]
      refine NRel.quiet s ?_
      simp only [VL]
      exact .inr ⟨b, o, _, true, rfl, Nat.le_refl _, fun _ => ⟨rfl, rfl⟩, h3, h4⟩
  · match as, hv with
    | [], hv => simp [VLL] at hv
    | _ :: _ :: _, hv => simp [VLL] at hv
    | [a], hv =>
    simp only [VLL] at hv
    replace hv := hv.1
    split at h
    case isFalse => cases h
    rename_i e
    subst e
    obtain rfl := Option.some.inj h
    simp only [VL] at hv
    obtain ⟨p, s', cap, ex, rfl, ⟨g1, g2, g3⟩, g4⟩ := hv
    rw [clip_run C K _ M p s' _ cap ex g1 g3]
    refine NRel.quiet s ?_
    simp only [VL]
    refine ⟨p, _, _, true, rfl, ⟨Nat.le_refl _, fun hp => ⟨?_, rfl⟩, fun _ => rfl⟩, g4.imp (fun ⟨j, q1, q2, q3⟩ => ⟨j, q1, q2, fun hw => ?_⟩) (fun ⟨q1, q2, q3⟩ => ⟨q1, q2, fun hw => ?_⟩)⟩
    · have := (g2 hp).1
      omega
    · obtain ⟨k1, k2, k3⟩ := q3 hw
      exact ⟨k1, rfl, k3.imp (fun h => h) (fun h => ⟨h.1, rfl⟩)⟩
    · obtain ⟨k1, k2, k3⟩ := q3 hw
      exact ⟨k1, q2, rfl⟩

end Go.Proofs.Ytachollgbplikaa
