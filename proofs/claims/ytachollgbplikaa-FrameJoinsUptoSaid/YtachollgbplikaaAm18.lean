/- The abstract machine, eighteenth part: functions and calls: what the machine comes to, the model comes to. -/
import Derived.Test.YtachollgbplikaaAm17
set_option linter.unusedVariables false
set_option linter.unusedSimpArgs false
namespace Go.Proofs.Ytachollgbplikaa

def cRes (P : Program) : ResultVar → Option ARes
  | .tmp t => some (.tmp t)
  | .cell t ty => match aggOf P ty, szOf P ty with
    | some g, some n => some (.cell t g n)
    | _, _ => none

def cResL (P : Program) : List ResultVar → Option (List ARes)
  | [] => some []
  | x :: l => match cRes P x, cResL P l with
    | some a, some r => some (a :: r)
    | _, _ => none

def cFunc (P : Program) (f : FuncId) (h : Hints) : Option AFunc :=
  match P.funcs[f]? with
  | some fn => match fn.body, cResL P fn.results.toList with
    | some c, some rs => if fn.name == "runtime.NumGoroutine" then none else some { nargs := fn.params.size + fn.nfree, ntmps := fn.ntmps, code := (cCode P c h).1, results := rs }
    | _, _ => none
  | none => none

theorem res_run {P : Program} {x : ResultVar} {a : ARes} (hc : cRes P x = some a) {ι : Inj} {M : Heap} {w : World} (r : R ι M w) {e : Env} {tmps : Array Value} (he : VRL ι e tmps.toList) {v : AV} (h : aRes a e M = some v) :
    ∃ v', ((match x with | .tmp t => pure (tmps.getD t undef) | .cell a t => do loadVar t (← asAddr (tmps.getD a undef))) : Sem Value).run P w = .ok v' w ∧ VR ι v v' := by
  have hg : ∀ t, VR ι (e.getD t .undef) (tmps.getD t undef) := fun t => by
    have := he.getD t undef
    rw [Array.getD_eq_getD_getElem?]
    rw [List.getD_eq_getElem?_getD (l := tmps.toList)] at this
    simpa using this
  cases x with
  | tmp t =>
    simp only [cRes, Option.some.injEq] at hc
    subst hc
    simp only [aRes] at h
    split at h
    · cases h
    · obtain rfl := Option.some.inj h
      exact ⟨_, rfl, hg t⟩
  | cell t ty =>
    simp only [cRes] at hc
    split at hc
    case h_2 => cases hc
    rename_i g n hga hgn
    obtain rfl := Option.some.inj hc
    simp only [aRes] at h
    obtain ⟨ad, v', h1, h2, h3⟩ := loadVar_run (P := P) r hga hgn (hg t) h
    refine ⟨v', ?_, h3⟩
    simp [h1, asAddr, h2]

theorem resL_run {P : Program} {ι : Inj} {M : Heap} {w : World} (r : R ι M w) {e : Env} {tmps : Array Value} (he : VRL ι e tmps.toList) : ∀ (l : List ResultVar) (al : List ARes) (vs : List AV), cResL P l = some al → aResL al e M = some vs →
    ∃ vs', ((l.mapM fun x => (match x with | .tmp t => pure (tmps.getD t undef) | .cell a t => do loadVar t (← asAddr (tmps.getD a undef)) : Sem Value)) : Sem (List Value)).run P w = .ok vs' w ∧ VRL ι vs vs'
  | [], al, vs, hc, h => by
    simp only [cResL, Option.some.injEq] at hc
    subst hc
    simp only [aResL, Option.some.injEq] at h
    subst h
    exact ⟨[], by simp, by simp [VRL]⟩
  | x :: l, al, vs, hc, h => by
    simp only [cResL] at hc
    split at hc
    case h_2 => cases hc
    rename_i a al' h1 h2
    obtain rfl := Option.some.inj hc
    simp only [aResL] at h
    obtain ⟨v, hv, h⟩ := Option.bind_eq_some_iff.1 h
    obtain ⟨vs2, hvs, rfl⟩ := Option.map_eq_some_iff.1 h
    obtain ⟨v', q1, q2⟩ := res_run (P := P) h1 r he hv
    obtain ⟨vs', q3, q4⟩ := resL_run r he l al' vs2 h2 hvs
    refine ⟨v' :: vs', ?_, by simp only [VRL]; exact ⟨q2, q4⟩⟩
    simp only [List.mapM_cons, Sem.run_bind, q1, Result.andThen_ok, q3, Sem.run_pure]

theorem results_run {P : Program} {fn : Func} {al : List ARes} (hc : cResL P fn.results.toList = some al) {ι : Inj} {M : Heap} {w : World} (r : R ι M w) {e : Env} {tmps : Array Value} (he : VRL ι e tmps.toList) {v : AV} (h : aResults al e M = some v) :
    ∃ v', (results fn tmps).run P w = .ok v' w ∧ VR ι v v' := by
  unfold aResults at h
  obtain ⟨vs, hvs, h⟩ := Option.map_eq_some_iff.1 h
  obtain ⟨vs', q1, q2⟩ := resL_run (P := P) r he _ al vs hc hvs
  unfold results
  rw [Sem.run_bind, Array.mapM_eq_mapM_toList, Sem.run_map]
  erw [q1]
  simp only [Result.andThen_ok, Sem.run_pure]
  refine ⟨_, rfl, ?_⟩
  subst h
  match vs, vs', q2 with
  | [], [], q2 => simp [VR, VRL]
  | [x], [y], q2 =>
    simp only [VRL] at q2
    simpa using q2.1
  | x :: x2 :: xs, y :: y2 :: ys, q2 =>
    simp only [VR]
    refine ⟨(y :: y2 :: ys).toArray, by simp, ?_⟩
    simpa using q2
  | [], _ :: _, q2 => simp [VRL] at q2
  | _ :: _, [], q2 => simp [VRL] at q2
  | [_], _ :: _ :: _, q2 => simp [VRL] at q2
  | _ :: _ :: _, [_], q2 => simp [VRL] at q2

theorem cFunc_bodied {P : Program} {f : FuncId} {h : Hints} {af : AFunc} (hc : cFunc P f h = some af) : Bodied P f := by
  unfold cFunc at hc
  split at hc
  case h_2 => cases hc
  rename_i fn hfn
  split at hc
  case h_2 => cases hc
  rename_i c rs hb _
  split at hc
  · cases hc
  · rename_i hn
    exact ⟨fn, c, hfn, hb, by simpa using hn⟩

theorem body_sound {P : Program} {C : ACalls} (hC : CallsOk P C) (K : Nat) {f : FuncId} {hs : Hints} {af : AFunc} (hc : cFunc P f hs = some af) : Sound P f (abody C K af) := by
  intro args M v M' h ι w vs r hv
  unfold cFunc at hc
  split at hc
  case h_2 => cases hc
  rename_i fn hfn
  split at hc
  case h_2 => cases hc
  rename_i c rs hb hrs
  split at hc
  · cases hc
  obtain rfl := Option.some.inj hc
  unfold abody at h
  simp only at h
  split at h
  case isFalse => cases h
  rename_i hlen
  have hsz : vs.size = fn.params.size + fn.nfree := by
    have := hv.length
    simp at this
    omega
  refine calls_of_wp hfn hb ?_
  have he : VRL ι (args ++ List.replicate (fn.ntmps - (fn.params.size + fn.nfree)) (.tuple [])) ({ tmps := vs ++ Array.replicate (fn.ntmps - vs.size) undef, defers := [] } : Act).tmps.toList := by
    simp only [Array.toList_append, Array.toList_replicate]
    refine hv.append ?_
    rw [hsz]
    refine VRL.of_get (by simp) fun i a b ha hb => ?_
    simp only [List.getElem?_replicate] at ha hb
    split at ha
    case isFalse => cases ha
    rename_i hi
    rw [if_pos hi] at hb
    obtain rfl := Option.some.inj ha
    obtain rfl := Option.some.inj hb
    exact VR.unit ι
  have fin : ∀ (x : Ex) (e' : Env) (M1 : Heap), (x = .normal ∨ x = .ret) → aexec C K (cCode P c hs).1 (args ++ List.replicate (fn.ntmps - (fn.params.size + fn.nfree)) (.tuple [])) M = some (x, e', M1) → (aResults rs e' M1).map (fun v => (v, M1)) = some (v, M') →
      c.wp P (bodyPost P fn fun e w' => ∃ ι' v', e = .returned v' ∧ VR ι' v v' ∧ Tr ι M w ι' M' w') { tmps := vs ++ Array.replicate (fn.ntmps - vs.size) undef, defers := [] } w := by
    intro x e' M1 hx hex hres
    obtain ⟨u, hu, hres⟩ := Option.map_eq_some_iff.1 hres
    simp only [Prod.mk.injEq] at hres
    obtain ⟨rfl, rfl⟩ := hres
    refine code_sound hC K c hs ι M _ _ w x e' M1 _ r he rfl hex fun ι' a' w' ht hv' hd => ?_
    obtain ⟨v', q1, q2⟩ := results_run (P := P) hrs ht.rel hv' hu
    have : a'.defers = [] ∧ ∃ v0, (results fn a'.tmps).run P w' = .ok v0 w' ∧ (∃ ι' v', Ending.returned v0 = .returned v' ∧ VR ι' u v' ∧ Tr ι M w ι' M1 w') := ⟨hd, v', q1, ι', v', rfl, q2, ht⟩
    rcases hx with rfl | rfl <;> exact this
  split at h
  · rename_i e' M1 hex
    exact fin .normal e' M1 (.inl rfl) hex h
  · rename_i e' M1 hex
    exact fin .ret e' M1 (.inr rfl) hex h
  · cases h

/-- The machine is right. -/
theorem acall_sound {P : Program} {G : FuncId → Option (List AV → Heap → Option (AV × Heap))} {T : FuncId → Option AFunc} (hG : ∀ f g, G f = some g → Bodied P f ∧ Sound P f g) (hT : ∀ f af, T f = some af → ∃ h, cFunc P f h = some af) (K : Nat) : ∀ d, CallsOk P (acall G T K d)
  | 0 => fun f => ⟨fun args M r h => by simp [acall] at h, fun args M v M' h => by simp [acall] at h⟩
  | d + 1 => fun f => by
    have ih := acall_sound hG hT K d
    constructor
    · intro args M r h
      simp only [acall] at h
      split at h
      · rename_i g hg
        exact (hG f g hg).1
      · split at h
        · rename_i af haf
          obtain ⟨hs, hc⟩ := hT f af haf
          exact cFunc_bodied hc
        · cases h
    · intro args M v M' h
      simp only [acall] at h
      split at h
      · rename_i g hg
        exact (hG f g hg).2 args M v M' h
      · split at h
        · rename_i af haf
          obtain ⟨hs, hc⟩ := hT f af haf
          exact body_sound ih K hc args M v M' h
        · cases h

end Go.Proofs.Ytachollgbplikaa
