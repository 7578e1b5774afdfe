/- V, third part: the pure operations. -/
import Derived.Test.YtachollgbplikaaAm26
set_option linter.all false
set_option linter.unusedSimpArgs false
namespace Go.Proofs.Ytachollgbplikaa

def AV.scal : AV → Bool
  | .bool _ | .int _ _ | .str _ => true
  | _ => false

section
variable {M : Heap} {O : Nat → Prop} {κ : VI}

theorem VL.scal {v : AV} (h : v.scal = true) : VL M O κ v v := by
  cases v <;> simp [AV.scal] at h <;> simp [VL]

theorem VL.eq {v a : AV} (h : v.scal = true) (r : VL M O κ v a) : a = v := by
  cases v <;> simp [AV.scal] at h <;> simpa [VL] using r

theorem aInts_scal {op : BinOp} {k : IntKind} {x y : Int} {v : AV} (h : aInts op k x y = some v) : v.scal = true := by
  cases op <;> simp only [aInts] at h
  all_goals first | (cases h; rfl) | (cases h; done) | (split at h <;> cases h <;> rfl)

theorem aStrs_scal {op : BinOp} {x y : List UInt8} {v : AV} (h : aStrs op x y = some v) : v.scal = true := by
  cases op <;> simp only [aStrs] at h
  all_goals first | (cases h; rfl) | (cases h; done) | (split at h <;> cases h <;> rfl)

theorem aBin_scal {op : BinOp} {x y v : AV} (h : aBin op x y = some v) : v.scal = true ∧ x.scal = true ∧ y.scal = true := by
  cases x <;> cases y <;> simp only [aBin] at h <;> first | (cases h; done) | skip
  · refine ⟨?_, rfl, rfl⟩
    split at h
    · split at h <;> cases h <;> rfl
    · split at h <;> cases h <;> rfl
    · split at h
      · exact aInts_scal h
      · cases h
  · exact ⟨aStrs_scal h, rfl, rfl⟩

theorem aEqK_rel {k : Kd} {x y x' y' : AV} {b : Bool} (hx : VL M O κ x x') (hy : VL M O κ y y') (h : aEqK k x y = some b) : aEqK k x' y' = some b := by
  have hs : x.scal = true ∧ y.scal = true := by
    cases k <;> cases x <;> simp only [aEqK] at h <;> first | (cases h; done) | (cases y <;> simp only at h <;> first | (cases h; done) | exact ⟨rfl, rfl⟩)
  rw [hx.eq hs.1, hy.eq hs.2]
  exact h

theorem aEqKs_rel : ∀ {ks : List Kd} {l r l' r' : List AV} {b : Bool}, VLL M O κ l l' → VLL M O κ r r' → aEqKs ks l r = some b → aEqKs ks l' r' = some b
  | [], [], [], l', r', b, hl, hr, h => by
    cases l' with
    | cons _ _ => simp [VLL] at hl
    | nil => cases r' with
      | cons _ _ => simp [VLL] at hr
      | nil => exact h
  | k :: ks, a :: l, c :: r, l', r', b, hl, hr, h => by
    cases l' with
    | nil => simp [VLL] at hl
    | cons a' l' =>
      cases r' with
      | nil => simp [VLL] at hr
      | cons c' r' =>
        simp only [VLL] at hl hr
        simp only [aEqKs] at h ⊢
        split at h
        · rename_i x y h1 h2
          rw [aEqK_rel hl.1 hr.1 h1, aEqKs_rel hl.2 hr.2 h2]
          exact h
        · cases h
  | [], [], _ :: _, _, _, _, _, _, h => by simp [aEqKs] at h
  | [], _ :: _, _, _, _, _, _, _, h => by simp [aEqKs] at h
  | _ :: _, [], _, _, _, _, _, _, h => by simp [aEqKs] at h
  | _ :: _, _ :: _, [], _, _, _, _, _, h => by simp [aEqKs] at h

theorem aEqP_rel {x y x' y' : AV} {b : Bool} (hx : VL M O κ x x') (hy : VL M O κ y y') (h : aEqP x y = some b) : aEqP x' y' = some b := by
  unfold aEqP at h
  split at h
  · rename_i c
    simp only [VL] at hx
    subst hx
    cases c with
    | none => simp only [VL] at hy; subst hy; simpa [aEqP] using h
    | some c => simp only [VL] at hy; obtain ⟨j, _, rfl⟩ := hy; simpa [aEqP] using h
  · simp only [VL] at hx hy
    obtain ⟨j, _, rfl⟩ := hx
    subst hy
    simpa [aEqP] using h
  · rename_i c d
    simp only [VL] at hx hy
    obtain ⟨j, h1, rfl⟩ := hx
    obtain ⟨j', h2, rfl⟩ := hy
    split at h
    · rename_i e
      rw [e, h2] at h1
      obtain rfl := Option.some.inj h1
      simpa [aEqP] using h
    · cases h
  · cases h

theorem aEqN_rel {x y x' y' : AV} {b : Bool} (hx : VL M O κ x x') (hy : VL M O κ y y') (h : aEqN x y = some b) : aEqN x' y' = some b := by
  unfold aEqN at h
  split at h
  · rename_i c _ _ _ _
    simp only [VL] at hx
    subst hx
    cases c with
    | none => simp only [VL] at hy; subst hy; simpa [aEqN] using h
    | some c => simp only [VL] at hy; obtain ⟨j, _, rfl⟩ := hy; simpa [aEqN] using h
  · simp only [VL] at hx hy
    obtain ⟨j, _, rfl⟩ := hx
    subst hy
    simpa [aEqN] using h
  · cases h

theorem aBound_rel {v a : AV} {m n : Nat} (r : VL M O κ v a) (h : aBound v m = some n) : aBound a m = some n := by
  cases v <;> simp only [aBound] at h <;> first | (cases h; done) | skip
  simp only [VL] at r
  subst r
  simpa [aBound] using h

theorem aBound_mono {v : AV} {m m' n : Nat} (h : aBound v m = some n) (hm : m ≤ m') : aBound v m' = some n ∧ n ≤ m := by
  cases v <;> simp only [aBound] at h <;> first | (cases h; done) | skip
  split at h
  case isFalse => cases h
  rename_i k i hi
  obtain rfl := Option.some.inj h
  simp only [aBound]
  rw [if_pos (by omega)]
  exact ⟨rfl, by omega⟩

theorem aMinMax_scal {m : Bool} {x y v : AV} (h : aMinMax m x y = some v) : v.scal = true ∧ x.scal = true ∧ y.scal = true := by
  cases x <;> cases y <;> simp only [aMinMax] at h <;> first | (cases h; done) | skip
  split at h <;> cases h <;> exact ⟨rfl, rfl, rfl⟩

theorem aFold_rel {m : Bool} : ∀ {l l' : List AV} {x x' v : AV}, VL M O κ x x' → VLL M O κ l l' → aFold m x l = some v → ∃ a, aFold m x' l' = some a ∧ VL M O κ v a
  | [], l', x, x', v, hx, hl, h => by
    have := hl.length
    cases l' <;> simp at this
    simp only [aFold, Option.some.injEq] at h ⊢
    subst h
    exact ⟨x', rfl, hx⟩
  | y :: l, l', x, x', v, hx, hl, h => by
    cases l' with
    | nil => simp [VLL] at hl
    | cons y' l' =>
      simp only [VLL] at hl
      simp only [aFold] at h ⊢
      obtain ⟨z, h1, h2⟩ := Option.bind_eq_some_iff.1 h
      obtain ⟨s1, s2, s3⟩ := aMinMax_scal h1
      obtain rfl := hx.eq s2
      obtain rfl := hl.1.eq s3
      rw [h1, Option.bind_some]
      exact aFold_rel (VL.scal s1) hl.2 h2

theorem aPart_rel {g : Bool} {off n : Nat} {cs cs' : List AV} {v : AV} (r : VLL M O κ cs cs') (h : aPart g off n cs = some v) : ∃ a, aPart g off n cs' = some a ∧ VL M O κ v a := by
  unfold aPart at h ⊢
  cases g with
  | true =>
    simp only [if_true, Option.some.injEq] at h ⊢
    subst h
    exact ⟨_, rfl, by simp only [VL]; exact ⟨_, rfl, (r.drop off).take n⟩⟩
  | false =>
    simp only [Bool.false_eq_true, if_false] at h ⊢
    exact r.get off v h

theorem aSlice_form {sz : Nat} {a : Option (Nat × Nat)} {sz' len cap : Nat} {ex : Bool} {lo hi mx : Option AX} {v : AV} (h : aSlice sz a sz' len cap ex [] lo hi mx = some v) :
    ∃ l len' cap' ex', v = .slice (aShift a (l * sz)) sz len' cap' ex' ∧ ∀ a' : Option (Nat × Nat), (a = none → a' = none) → aSlice sz a' sz' len cap ex [] lo hi mx = some (.slice (aShift a' (l * sz)) sz len' cap' ex') := by
  unfold aSlice at h
  split at h
  case isFalse => cases h
  rename_i hc
  have hc' : ∀ a' : Option (Nat × Nat), (a = none → a' = none) → (a' = none ∨ sz' = sz) := fun a' ha => hc.imp ha id
  cases mx with
  | none =>
    simp only at h
    obtain ⟨x, h1, h⟩ := Option.bind_eq_some_iff.1 h
    obtain ⟨y, h2, h⟩ := Option.bind_eq_some_iff.1 h
    obtain rfl := Option.some.inj h
    refine ⟨_, _, _, _, rfl, fun a' ha => ?_⟩
    unfold aSlice
    rw [if_pos (hc' a' ha)]
    simp only [h1, h2, Option.bind_some]
  | some mx =>
    simp only at h
    obtain ⟨m, h0, h⟩ := Option.bind_eq_some_iff.1 h
    cases hi with
    | none => cases h
    | some hi =>
      simp only at h
      obtain ⟨x, h1, h⟩ := Option.bind_eq_some_iff.1 h
      obtain ⟨y, h2, h⟩ := Option.bind_eq_some_iff.1 h
      obtain rfl := Option.some.inj h
      refine ⟨_, _, _, _, rfl, fun a' ha => ?_⟩
      unfold aSlice
      rw [if_pos (hc' a' ha)]
      simp only [h0, h1, h2, Option.bind_some]

theorem drop_take_sub {c : List AV} {o n l m : Nat} (h : l + m ≤ n) : ((((c.drop o).take n).drop l).take m) = ((c.drop (o + l)).take m) := by
  rw [List.drop_take, List.take_take, List.drop_drop, Nat.min_eq_left (by omega)]

theorem list_part {sz len h l : Nat} {cs : List AV} {b o : Nat} {ex1 : Bool} {cap1 : Nat} {ex2 : Bool} (hl : l ≤ h) (hh : h ≤ len) (hcs : cs.length = len * sz)
    (hc : len ≠ 0 → ∃ c ro sl, M.get b = some (.cells c ro sl) ∧ ¬ O b ∧ b < M.next ∧ o + len * sz ≤ c.length ∧ VLL M O VI.none cs ((c.drop o).take (len * sz))) (h1 : h - l ≤ cap1) (h2 : ex2 = true → ex1 = true ∧ cap1 = h - l) :
    VL M O κ (.list sz (h - l) ((cs.drop (l * sz)).take ((h - l) * sz)) ex2) (.slice (some (b, o + l * sz)) sz (h - l) cap1 ex1) := by
  have e : l * sz + (h - l) * sz = h * sz := by rw [← Nat.add_mul]; congr 1; omega
  have e2 : h * sz ≤ len * sz := Nat.mul_le_mul_right _ hh
  simp only [VL]
  refine .inr ⟨b, _, cap1, ex1, rfl, h1, h2, ?_, fun hne => ?_⟩
  · rw [List.length_take, List.length_drop, hcs]
    omega
  · obtain ⟨c, ro, sl, g1, g2, g3, g4, g5⟩ := hc (by omega)
    refine ⟨c, ro, sl, g1, g2, g3, by omega, ?_⟩
    have := (g5.drop (l * sz)).take ((h - l) * sz)
    rwa [drop_take_sub (by omega)] at this

section
variable {ρ σ : Nat → AV} (h : ∀ t, VL M O κ (ρ t) (σ t))
include h

theorem ev_rel {x : AX} (hc : x.okc = true) : VL M O κ ((x.sub ρ).ev []) ((x.sub σ).ev []) := by
  cases x with
  | t n => exact h n
  | c v => exact VL.const v hc

theorem evs_rel : ∀ {xs : List AX}, xs.all AX.okc = true → VLL M O κ ((xs.map (AX.sub ρ)).map (AX.ev [])) ((xs.map (AX.sub σ)).map (AX.ev []))
  | [], _ => by simp [VLL]
  | x :: xs, hc => by
    simp only [List.all_cons, Bool.and_eq_true] at hc
    simp only [List.map_cons, VLL]
    exact ⟨ev_rel h hc.1, evs_rel hc.2⟩

theorem boundO_rel {x : Option AX} (hc : okO x = true) {other m n : Nat} (hb : aBoundO [] (AX.subO ρ x) other m = some n) : aBoundO [] (AX.subO σ x) other m = some n := by
  cases x with
  | none => exact hb
  | some x => exact aBound_rel (ev_rel h hc) hb

theorem aFill_rel : ∀ {ps : List (Nat × Nat × AX)} {cs cs' l : List AV}, (ps.all fun p => p.2.2.okc) = true → VLL M O κ cs cs' →
    aFill cs (ps.map fun p => (p.1, p.2.1, (p.2.2.sub ρ).ev [])) = some l → ∃ l', aFill cs' (ps.map fun p => (p.1, p.2.1, (p.2.2.sub σ).ev [])) = some l' ∧ VLL M O κ l l'
  | [], cs, cs', l, _, hr, hf => by
    simp only [List.map_nil, aFill, Option.some.injEq] at hf ⊢
    subst hf
    exact ⟨cs', rfl, hr⟩
  | p :: ps, cs, cs', l, hc, hr, hf => by
    simp only [List.all_cons, Bool.and_eq_true] at hc
    simp only [List.map_cons, aFill] at hf ⊢
    split at hf
    case h_2 => cases hf
    rename_i x hx
    split at hf
    case isFalse => cases hf
    rename_i hle
    obtain ⟨x', hx', hxr⟩ := (ev_rel h hc.1).cells hx
    rw [hx']
    simp only
    rw [if_pos (by rw [← hxr.length, ← hr.length]; exact hle)]
    refine aFill_rel hc.2 ?_ hf
    exact ((hr.take _).append hxr).append (hr.drop _)

theorem vP_ok {o : POp} (hc : o.okc = true) {v : AV} (hv : vP (o.sub ρ) = some v) : ∃ a, aP (o.sub σ) [] = some a ∧ VL M O κ v a := by
  cases o with
  | move x =>
    have hx := ev_rel h hc
    simp only [POp.sub, vP, aP, Option.some.injEq] at hv ⊢
    subst hv
    exact ⟨_, rfl, hx⟩
  | pick c a b =>
    simp only [POp.okc, Bool.and_eq_true] at hc
    have h1 := ev_rel h hc.1.1
    have h2 := ev_rel h hc.1.2
    have h3 := ev_rel h hc.2
    simp only [POp.sub, vP, aP] at hv ⊢
    generalize (c.sub ρ).ev [] = C at *
    cases C <;> (try simp only at hv) <;> first | (cases hv; done) | skip
    rename_i w
    simp only [VL] at h1
    rw [h1]
    cases w <;> simp only [Option.some.injEq] at hv ⊢ <;> subst hv
    · exact ⟨_, rfl, h3⟩
    · exact ⟨_, rfl, h2⟩
  | build z ps =>
    simp only [POp.okc, Bool.and_eq_true] at hc
    simp only [POp.sub, vP, aP, List.map_map] at hv ⊢
    obtain ⟨l, h1, rfl⟩ := Option.map_eq_some_iff.1 hv
    obtain ⟨l', h2, h3⟩ := aFill_rel h hc.2 (VLL.const z hc.1) h1
    refine ⟨.agg l', ?_, by simp only [VL]; exact ⟨l', rfl, h3⟩⟩
    rw [Option.map_eq_some_iff]
    exact ⟨l', h2, rfl⟩
  | nilCheck x =>
    have hx := ev_rel h hc
    simp only [POp.sub, vP, aP] at hv ⊢
    generalize (x.sub ρ).ev [] = X at *
    generalize (x.sub σ).ev [] = X' at *
    cases X with
    | ptr p =>
      cases p with
      | none => simp at hv
      | some q =>
        simp only [Option.some.injEq] at hv
        subst hv
        simp only [VL] at hx
        obtain ⟨j, h1, rfl⟩ := hx
        exact ⟨_, rfl, by simp only [VL]; exact ⟨j, h1, rfl⟩⟩
    | func f cs =>
      simp only [Option.some.injEq] at hv
      subst hv
      simp only [VL] at hx
      obtain ⟨cs', rfl, h1⟩ := hx
      exact ⟨_, rfl, by simp only [VL]; exact ⟨cs', rfl, h1⟩⟩
    | elem cs =>
      simp only [Option.some.injEq] at hv
      subst hv
      have hx' := hx
      simp only [VL] at hx
      obtain ⟨b, o, c, ro, sl, rfl, _⟩ := hx
      exact ⟨_, rfl, hx'⟩
    | _ => simp at hv
  | bin op x y =>
    simp only [POp.okc, Bool.and_eq_true] at hc
    have hx := ev_rel h hc.1
    have hy := ev_rel h hc.2
    simp only [POp.sub, vP, aP] at hv ⊢
    rw [kBin_eq] at hv
    obtain ⟨s1, s2, s3⟩ := aBin_scal hv
    rw [hx.eq s2, hy.eq s3]
    exact ⟨v, hv, VL.scal s1⟩
  | eqB neg x y =>
    simp only [POp.okc, Bool.and_eq_true] at hc
    have hx := ev_rel h hc.1
    have hy := ev_rel h hc.2
    simp only [POp.sub, vP, aP] at hv ⊢
    obtain ⟨b, h1, rfl⟩ := Option.map_eq_some_iff.1 hv
    rw [aEqK_rel hx hy h1]
    exact ⟨_, rfl, by simp [VL]⟩
  | eqS neg ks x y =>
    simp only [POp.okc, Bool.and_eq_true] at hc
    have hx := ev_rel h hc.1
    have hy := ev_rel h hc.2
    simp only [POp.sub, vP, aP] at hv ⊢
    generalize (x.sub ρ).ev [] = X at *
    generalize (y.sub ρ).ev [] = Y at *
    cases X <;> (try simp only at hv) <;> first | (cases hv; done) | skip
    cases Y <;> (try simp only at hv) <;> first | (cases hv; done) | skip
    simp only [VL] at hx hy
    obtain ⟨l', e1, hl⟩ := hx
    obtain ⟨r', e2, hr⟩ := hy
    obtain ⟨b, h1, rfl⟩ := Option.map_eq_some_iff.1 hv
    rw [e1, e2]
    simp only [aEqKs_rel hl hr h1]
    exact ⟨_, rfl, by simp [VL]⟩
  | eqP neg x y =>
    simp only [POp.okc, Bool.and_eq_true] at hc
    have hx := ev_rel h hc.1
    have hy := ev_rel h hc.2
    simp only [POp.sub, vP, aP] at hv ⊢
    obtain ⟨b, h1, rfl⟩ := Option.map_eq_some_iff.1 hv
    rw [aEqP_rel hx hy h1]
    exact ⟨_, rfl, by simp [VL]⟩
  | eqN neg x y =>
    simp only [POp.okc, Bool.and_eq_true] at hc
    have hx := ev_rel h hc.1
    have hy := ev_rel h hc.2
    simp only [POp.sub, vP, aP] at hv ⊢
    generalize (x.sub ρ).ev [] = X at *
    generalize (y.sub ρ).ev [] = Y at *
    generalize (x.sub σ).ev [] = X' at *
    generalize (y.sub σ).ev [] = Y' at *
    split at hv
    · simp only [VL] at hx hy
      obtain ⟨b, o, cap, ex', rfl, _⟩ := hx.resolve_left (fun h => by cases h.1)
      subst hy
      simp only [Option.some.injEq] at hv
      subst hv
      exact ⟨.bool neg, by simp [aEqN], by simp [VL]⟩
    · simp only [VL] at hx hy
      obtain ⟨b, o, cap, ex', rfl, _⟩ := hy.resolve_left (fun h => by cases h.1)
      subst hx
      simp only [Option.some.injEq] at hv
      subst hv
      exact ⟨.bool neg, by simp [aEqN], by simp [VL]⟩
    · obtain ⟨b, h1, rfl⟩ := Option.map_eq_some_iff.1 hv
      rw [aEqN_rel hx hy h1]
      exact ⟨_, rfl, by simp [VL]⟩
  | un op x =>
    have hx := ev_rel h hc
    simp only [POp.sub, vP, aP] at hv ⊢
    have : ((x.sub ρ).ev []).scal = true ∧ v.scal = true := by
      generalize (x.sub ρ).ev [] = X at *
      cases X <;> cases op <;> simp only [aUn] at hv <;> first | (cases hv; done) | (cases hv; exact ⟨rfl, rfl⟩)
    rw [hx.eq this.1]
    exact ⟨v, hv, VL.scal this.2⟩
  | cvInt k x =>
    have hx := ev_rel h hc
    simp only [POp.sub, vP, aP] at hv ⊢
    generalize (x.sub ρ).ev [] = X at *
    cases X <;> (try simp only at hv) <;> first | (cases hv; done) | skip
    obtain rfl := Option.some.inj hv
    rw [hx.eq rfl]
    exact ⟨_, rfl, by simp [VL]⟩
  | cvStr x =>
    have hx := ev_rel h hc
    simp only [POp.sub, vP, aP] at hv ⊢
    generalize (x.sub ρ).ev [] = X at *
    cases X <;> (try simp only at hv) <;> first | (cases hv; done) | skip
    obtain rfl := Option.some.inj hv
    rw [hx.eq rfl]
    exact ⟨_, rfl, by simp [VL]⟩
  | mkFunc f cs =>
    simp only [POp.sub, vP, aP, Option.some.injEq] at hv ⊢
    subst hv
    exact ⟨_, rfl, by simp only [VL]; exact ⟨_, rfl, evs_rel h hc⟩⟩
  | sliceStr x lo hi =>
    simp only [POp.okc, Bool.and_eq_true] at hc
    have hx := ev_rel h hc.1.1
    simp only [POp.sub, vP, aP] at hv ⊢
    generalize (x.sub ρ).ev [] = X at *
    cases X <;> (try simp only at hv) <;> first | (cases hv; done) | skip
    rw [hx.eq rfl]
    simp only [aSliceStr] at hv ⊢
    obtain ⟨a, h1, hv⟩ := Option.bind_eq_some_iff.1 hv
    obtain ⟨b, h2, hv⟩ := Option.bind_eq_some_iff.1 hv
    obtain rfl := Option.some.inj hv
    rw [boundO_rel h hc.2 h1, Option.bind_some, boundO_rel h hc.1.2 h2, Option.bind_some]
    exact ⟨_, rfl, by simp [VL]⟩
  | slice sz x lo hi mx =>
    simp only [POp.okc, Bool.and_eq_true] at hc
    obtain ⟨⟨⟨cx, clo⟩, chi⟩, cmx⟩ := hc
    have hx := ev_rel h cx
    simp only [POp.sub, vP, aP] at hv ⊢
    generalize (x.sub ρ).ev [] = X at *
    generalize (x.sub σ).ev [] = X' at *
    have tr : ∀ {a : Option (Nat × Nat)} {sz' len cap : Nat} {ex : Bool} {w : AV}, aSlice sz a sz' len cap ex [] (AX.subO ρ lo) (AX.subO ρ hi) (AX.subO ρ mx) = some w → aSlice sz a sz' len cap ex [] (AX.subO σ lo) (AX.subO σ hi) (AX.subO σ mx) = some w := by
      intro a sz' len cap ex w hw
      unfold aSlice at hw ⊢
      split at hw
      case isFalse => cases hw
      rename_i hcond
      rw [if_pos hcond]
      cases mx with
      | none =>
        simp only [AX.subO, Option.map_none] at hw ⊢
        obtain ⟨a, h1, hw⟩ := Option.bind_eq_some_iff.1 hw
        obtain ⟨b, h2, hw⟩ := Option.bind_eq_some_iff.1 hw
        have := boundO_rel h chi h1
        simp only [AX.subO] at this
        rw [this, Option.bind_some]
        have := boundO_rel h clo h2
        simp only [AX.subO] at this
        rw [this, Option.bind_some]
        exact hw
      | some mx =>
        cases hi with
        | none =>
          simp only [AX.subO, Option.map_none, Option.map_some] at hw
          obtain ⟨m, _, hw⟩ := Option.bind_eq_some_iff.1 hw
          cases hw
        | some hi =>
          simp only [AX.subO, Option.map_some] at hw ⊢
          obtain ⟨m, h0, hw⟩ := Option.bind_eq_some_iff.1 hw
          obtain ⟨a, h1, hw⟩ := Option.bind_eq_some_iff.1 hw
          obtain ⟨b, h2, hw⟩ := Option.bind_eq_some_iff.1 hw
          have := boundO_rel h cmx h0
          simp only [AX.subO, Option.map_some] at this
          rw [this, Option.bind_some]
          have := boundO_rel h chi h1
          simp only [AX.subO, Option.map_some] at this
          rw [this, Option.bind_some]
          have := boundO_rel h clo h2
          simp only [AX.subO] at this
          rw [this, Option.bind_some]
          exact hw
    cases X with
    | slice a sz' len cap ex =>
      simp only at hv
      cases a with
      | none =>
        simp only [VL] at hx
        subst hx
        obtain ⟨l, len', cap', ex', rfl, hall⟩ := aSlice_form hv
        exact ⟨_, tr hv, by simp [VL, aShift]⟩
      | some q =>
        simp only [VL] at hx
        obtain ⟨j, h1, rfl⟩ := hx
        obtain ⟨l, len', cap', ex', rfl, hall⟩ := aSlice_form hv
        refine ⟨_, tr (hall (some (j, q.2)) (by simp)), ?_⟩
        simp only [aShift, Option.map_some, VL]
        exact ⟨j, h1, rfl⟩
    | list sz' len cs ex =>
      simp only [VL] at hx
      simp only [vSlice] at hv
      split at hv
      case isFalse => cases hv
      rename_i he
      subst he
      rcases hx with ⟨rfl, rfl, s', rfl⟩ | ⟨b, o, cap, ex', rfl, h1, h2, h3, h4⟩
      · have fin : ∀ w, aSlice sz' none s' 0 0 true [] (AX.subO ρ lo) (AX.subO ρ hi) (AX.subO ρ mx) = some w → VL M O κ v w → ∃ a, aSlice sz' none s' 0 0 true [] (AX.subO σ lo) (AX.subO σ hi) (AX.subO σ mx) = some a ∧ VL M O κ v a :=
          fun w h1 h2 => ⟨w, tr h1, h2⟩
        cases mx with
        | none =>
          simp only [AX.subO, Option.map_none] at hv
          obtain ⟨y, g1, hv⟩ := Option.bind_eq_some_iff.1 hv
          obtain ⟨l, g2, hv⟩ := Option.bind_eq_some_iff.1 hv
          obtain rfl := Option.some.inj hv
          have gy : y = 0 := by
            cases hi with
            | none => simpa [aBoundO] using g1.symm
            | some hi => have := (aBound_mono g1 (Nat.le_refl _)).2; omega
          subst gy
          have gl : l = 0 := by
            cases lo with
            | none => simpa [aBoundO] using g2.symm
            | some lo => have := (aBound_mono g2 (Nat.le_refl _)).2; omega
          subst gl
          refine fin (.slice none sz' 0 0 true) ?_ ?_
          · unfold aSlice
            simp only [AX.subO, true_or, if_true, Option.map_none, aShift]
            rw [g1, Option.bind_some, g2]
            rfl
          · simp only [VL]
            exact .inl (by simp)
        | some mx =>
          cases hi with
          | none =>
            simp only [AX.subO, Option.map_none, Option.map_some] at hv
            obtain ⟨m, _, hv⟩ := Option.bind_eq_some_iff.1 hv
            cases hv
          | some hi =>
            simp only [AX.subO, Option.map_some] at hv
            obtain ⟨m, g0, hv⟩ := Option.bind_eq_some_iff.1 hv
            obtain ⟨y, g1, hv⟩ := Option.bind_eq_some_iff.1 hv
            obtain ⟨l, g2, hv⟩ := Option.bind_eq_some_iff.1 hv
            obtain rfl := Option.some.inj hv
            have gm := (aBound_mono g0 (Nat.le_refl _)).2
            obtain rfl : m = 0 := by omega
            have gy := (aBound_mono g1 (Nat.le_refl _)).2
            obtain rfl : y = 0 := by omega
            have gl : l = 0 := by
              cases lo with
              | none => simpa [aBoundO] using g2.symm
              | some lo => have := (aBound_mono g2 (Nat.le_refl _)).2; omega
            subst gl
            refine fin (.slice none sz' 0 0 true) ?_ ?_
            · unfold aSlice
              simp only [AX.subO, true_or, if_true, Option.map_some, aShift]
              rw [g0, Option.bind_some, g1, Option.bind_some, g2]
              rfl
            · simp only [VL]
              exact .inl (by simp)
      simp only
      cases mx with
      | none =>
        simp only [AX.subO, Option.map_none] at hv
        obtain ⟨y, g1, hv⟩ := Option.bind_eq_some_iff.1 hv
        obtain ⟨l, g2, hv⟩ := Option.bind_eq_some_iff.1 hv
        obtain rfl := Option.some.inj hv
        have gy : aBoundO [] (AX.subO ρ hi) len cap = some y ∧ y ≤ len := by
          cases hi with
          | none =>
            simp only [aBoundO, Option.map_none, AX.subO, Option.some.injEq] at g1 ⊢
            omega
          | some hi => exact aBound_mono g1 h1
        have gl : l ≤ y := by
          cases lo with
          | none => simp only [aBoundO, Option.map_none, Option.some.injEq] at g2; omega
          | some lo => exact (aBound_mono g2 (Nat.le_refl _)).2
        refine ⟨_, tr (w := .slice (some (b, o + l * sz')) sz' (y - l) (cap - l) ex') ?_, ?_⟩
        · unfold aSlice
          simp only [AX.subO, or_true, if_true, Option.map_none, aShift, Option.map_some]
          rw [show aBoundO [] (hi.map (AX.sub ρ)) len cap = some y from gy.1, Option.bind_some, g2, Option.bind_some]
        · refine list_part gl gy.2 h3 h4 (by omega) fun he => ?_
          simp only [Bool.and_eq_true, beq_iff_eq] at he
          obtain ⟨q1, q2⟩ := h2 he.1
          exact ⟨q1, by omega⟩
      | some mx =>
        cases hi with
        | none =>
          simp only [AX.subO, Option.map_none, Option.map_some] at hv
          obtain ⟨m, _, hv⟩ := Option.bind_eq_some_iff.1 hv
          cases hv
        | some hi =>
          simp only [AX.subO, Option.map_some] at hv
          obtain ⟨m, g0, hv⟩ := Option.bind_eq_some_iff.1 hv
          obtain ⟨y, g1, hv⟩ := Option.bind_eq_some_iff.1 hv
          obtain ⟨l, g2, hv⟩ := Option.bind_eq_some_iff.1 hv
          obtain rfl := Option.some.inj hv
          obtain ⟨m1, m2⟩ := aBound_mono g0 h1
          obtain ⟨_, y2⟩ := aBound_mono g1 (Nat.le_refl _)
          have gl : l ≤ y := by
            cases lo with
            | none => simp only [aBoundO, Option.map_none, Option.some.injEq] at g2; omega
            | some lo => exact (aBound_mono g2 (Nat.le_refl _)).2
          refine ⟨_, tr (w := .slice (some (b, o + l * sz')) sz' (y - l) (m - l) true) ?_, ?_⟩
          · unfold aSlice
            simp only [AX.subO, or_true, if_true, Option.map_some, aShift]
            rw [show aBoundO [] (some (mx.sub ρ)) cap cap = some m from m1, Option.bind_some, g1, Option.bind_some, g2, Option.bind_some]
          · refine list_part gl (by omega) h3 h4 (by omega) fun he => ?_
            simp only [beq_iff_eq] at he
            exact ⟨rfl, by omega⟩
    | acc b off sz' n w =>
      simp only [VL] at hx
      obtain ⟨p, s', cap, ex, rfl, ⟨hn, hnp, hns⟩, hx⟩ := hx
      simp only [vSliceA] at hv
      split at hv
      case isFalse => cases hv
      rename_i he
      subst he
      have fin : ∀ (l y cap' : Nat) (ex' : Bool), l ≤ y → y ≤ n → y - l ≤ cap' → (l = 0 → y = n → cap = n → cap' = n ∧ (ex = true → ex' = true)) → (cap = 0 → ex = true → cap' = 0 ∧ ex' = true) →
          VL M O κ (.acc b (off + l * sz') sz' (y - l) (w && l == 0 && y == n)) (.slice (aShift p (l * sz')) sz' (y - l) cap' ex') := by
        intro l y cap' ex' h1 h2 h3 h4 h5
        simp only [VL]
        refine ⟨_, _, _, _, rfl, ⟨h3, fun hp => ?_, fun _ => rfl⟩, ?_⟩
        · cases p with
          | none => exact h5 (hnp rfl).1 (hnp rfl).2
          | some p => simp [aShift] at hp
        have hw : (w && l == 0 && y == n) = true → w = true ∧ l = 0 ∧ y = n := by
          intro h
          simp only [Bool.and_eq_true, beq_iff_eq] at h
          exact ⟨h.1.1, h.1.2, h.2⟩
        rcases hx with ⟨j, g1, g2, g3⟩ | ⟨g1, g2, g3⟩
        · refine .inl ⟨j, g1, fun hne => ?_, fun hw' => ?_⟩
          · rw [g2 (by omega)]
            rfl
          · obtain ⟨w1, w2, w3⟩ := hw hw'
            obtain ⟨k1, k2, k3⟩ := g3 w1
            obtain ⟨k4, k5⟩ := h4 w2 w3 k2
            refine ⟨by simp [k1, w2], by omega, ?_⟩
            rcases k3 with k3 | ⟨k3, k6⟩
            · left
              rw [k3]
              simp [aShift, w2]
            · right
              exact ⟨by omega, k5 k6⟩
        · refine .inr ⟨g1, by omega, fun hw' => ?_⟩
          obtain ⟨w1, w2, w3⟩ := hw hw'
          obtain ⟨k1, k2, k3⟩ := g3 w1
          obtain ⟨k4, k5⟩ := h4 w2 w3 (by omega)
          exact ⟨by simp [k1, w2], by omega, k5 k3⟩
      cases mx with
      | none =>
        simp only [AX.subO, Option.map_none] at hv
        obtain ⟨y, g1, hv⟩ := Option.bind_eq_some_iff.1 hv
        obtain ⟨l, g2, hv⟩ := Option.bind_eq_some_iff.1 hv
        obtain rfl := Option.some.inj hv
        have gy : aBoundO [] (AX.subO ρ hi) n cap = some y ∧ y ≤ n := by
          cases hi with
          | none =>
            simp only [aBoundO, Option.map_none, AX.subO, Option.some.injEq] at g1 ⊢
            omega
          | some hi => exact aBound_mono g1 hn
        have gl : l ≤ y := by
          cases lo with
          | none => simp only [aBoundO, Option.map_none, Option.some.injEq] at g2; omega
          | some lo => exact (aBound_mono g2 (Nat.le_refl _)).2
        refine ⟨_, tr (w := .slice (aShift p (l * sz')) sz' (y - l) (cap - l) ex) ?_, fin l y (cap - l) ex gl gy.2 (by omega) (fun _ _ _ => ⟨by omega, fun h => h⟩) (fun _ h => ⟨by omega, h⟩)⟩
        unfold aSlice
        rw [if_pos (show p = none ∨ s' = sz' by cases p with
          | none => exact .inl rfl
          | some p => exact .inr (hns (by simp)))]
        simp only [AX.subO, Option.map_none]
        rw [show aBoundO [] (hi.map (AX.sub ρ)) n cap = some y from gy.1, Option.bind_some, g2, Option.bind_some]
      | some mx =>
        cases hi with
        | none =>
          simp only [AX.subO, Option.map_none, Option.map_some] at hv
          obtain ⟨m, _, hv⟩ := Option.bind_eq_some_iff.1 hv
          cases hv
        | some hi =>
          simp only [AX.subO, Option.map_some] at hv
          obtain ⟨m, g0, hv⟩ := Option.bind_eq_some_iff.1 hv
          obtain ⟨y, g1, hv⟩ := Option.bind_eq_some_iff.1 hv
          obtain ⟨l, g2, hv⟩ := Option.bind_eq_some_iff.1 hv
          obtain rfl := Option.some.inj hv
          obtain ⟨m1, m2⟩ := aBound_mono g0 hn
          obtain ⟨_, y2⟩ := aBound_mono g1 (Nat.le_refl _)
          have gl : l ≤ y := by
            cases lo with
            | none => simp only [aBoundO, Option.map_none, Option.some.injEq] at g2; omega
            | some lo => exact (aBound_mono g2 (Nat.le_refl _)).2
          refine ⟨_, tr (w := .slice (aShift p (l * sz')) sz' (y - l) (m - l) true) ?_, fin l y (m - l) true gl (by omega) (by omega) (fun _ _ _ => ⟨by omega, fun _ => rfl⟩) (fun _ _ => ⟨by omega, rfl⟩)⟩
          unfold aSlice
          rw [if_pos (show p = none ∨ s' = sz' by cases p with
            | none => exact .inl rfl
            | some p => exact .inr (hns (by simp)))]
          simp only [AX.subO, Option.map_some]
          rw [show aBoundO [] (some (mx.sub ρ)) cap cap = some m from m1, Option.bind_some, g1, Option.bind_some, g2, Option.bind_some]
    | _ => simp at hv
  | fieldAddr off x =>
    have hx := ev_rel h hc
    simp only [POp.sub, vP, aP] at hv ⊢
    generalize (x.sub ρ).ev [] = X at *
    generalize (x.sub σ).ev [] = X' at *
    cases X with
    | ptr p =>
      cases p with
      | none => simp at hv
      | some q =>
        simp only [Option.some.injEq] at hv
        subst hv
        simp only [VL] at hx
        obtain ⟨j, h1, rfl⟩ := hx
        exact ⟨_, rfl, by simp only [VL]; exact ⟨j, h1, rfl⟩⟩
    | elem cs =>
      simp only [Option.some.injEq] at hv
      subst hv
      simp only [VL] at hx
      obtain ⟨b, o, c, ro, sl, rfl, g1, g2, g3, g4⟩ := hx
      refine ⟨_, rfl, ?_⟩
      simp only [VL]
      refine ⟨b, _, c, ro, sl, rfl, g1, g2, g3, ?_⟩
      have := g4.drop off
      rwa [List.drop_take, List.drop_drop, ← List.length_drop] at this
    | _ => simp at hv
  | field g off n x =>
    have hx := ev_rel h hc
    simp only [POp.sub, vP, aP] at hv ⊢
    generalize (x.sub ρ).ev [] = X at *
    generalize (x.sub σ).ev [] = X' at *
    cases X <;> (try simp only at hv) <;> first | (cases hv; done) | skip
    simp only [VL] at hx
    obtain ⟨l', rfl, hl⟩ := hx
    exact aPart_rel hl hv
  | idxArr n sz x i =>
    simp only [POp.okc, Bool.and_eq_true] at hc
    have hx := ev_rel h hc.1
    have hi := ev_rel h hc.2
    simp only [POp.sub, vP, aP] at hv ⊢
    generalize (x.sub ρ).ev [] = X at *
    generalize (x.sub σ).ev [] = X' at *
    generalize (i.sub ρ).ev [] = I at *
    cases X with
    | ptr p =>
      cases p with
      | none => simp at hv
      | some q =>
        cases I <;> (try simp only at hv) <;> first | (cases hv; done) | skip
        rw [hi.eq rfl]
        split at hv
        case isFalse => cases hv
        rename_i hlt
        obtain rfl := Option.some.inj hv
        simp only [VL] at hx
        obtain ⟨j, h1, rfl⟩ := hx
        simp only
        rw [if_pos hlt]
        exact ⟨_, rfl, by simp only [VL]; exact ⟨j, h1, rfl⟩⟩
    | elem cs =>
      cases I <;> (try simp only at hv) <;> first | (cases hv; done) | skip
      rw [hi.eq rfl]
      split at hv
      case isFalse => cases hv
      rename_i hlt
      obtain rfl := Option.some.inj hv
      simp only [VL] at hx
      obtain ⟨b, o, c, ro, sl, rfl, g1, g2, g3, g4⟩ := hx
      simp only
      rw [if_pos hlt]
      refine ⟨_, rfl, ?_⟩
      simp only [VL]
      refine ⟨b, _, c, ro, sl, rfl, g1, g2, g3, ?_⟩
      rename_i k z
      have := g4.drop (z.toNat * sz)
      rwa [List.drop_take, List.drop_drop, ← List.length_drop] at this
    | _ => simp at hv
  | idxSlice sz x i =>
    simp only [POp.okc, Bool.and_eq_true] at hc
    have hx := ev_rel h hc.1
    have hi := ev_rel h hc.2
    simp only [POp.sub, vP, aP] at hv ⊢
    generalize (x.sub ρ).ev [] = X at *
    generalize (x.sub σ).ev [] = X' at *
    generalize (i.sub ρ).ev [] = I at *
    cases X with
    | slice p sz' len cap ex =>
      cases p with
      | none => simp at hv
      | some q =>
        cases I <;> (try simp only at hv) <;> first | (cases hv; done) | skip
        rw [hi.eq rfl]
        split at hv
        case isFalse => cases hv
        rename_i hlt
        obtain rfl := Option.some.inj hv
        simp only [VL] at hx
        obtain ⟨j, h1, rfl⟩ := hx
        simp only
        rw [if_pos hlt]
        exact ⟨_, rfl, by simp only [VL]; exact ⟨j, h1, rfl⟩⟩
    | list sz' len cs ex =>
      cases I <;> (try simp only at hv) <;> first | (cases hv; done) | skip
      rename_i k z
      rw [hi.eq rfl]
      split at hv
      case isFalse => cases hv
      rename_i hlt
      obtain rfl := Option.some.inj hv
      simp only [VL] at hx
      obtain ⟨b, o, cap, ex', rfl, q1, q2, q3, q4⟩ := hx.resolve_left (fun h => by have := h.1; omega)
      simp only
      rw [if_pos hlt]
      refine ⟨_, rfl, ?_⟩
      obtain ⟨c, ro, sl, g1, g2, g3, g4, g5⟩ := q4 (by omega)
      simp only [VL]
      refine ⟨b, _, c, ro, sl, rfl, g1, g2, g3, ?_⟩
      have := g5.drop (z.toNat * sz)
      rwa [← q3, List.drop_take, List.drop_drop, ← List.length_drop] at this
    | acc b off sz' n w =>
      cases I <;> (try simp only at hv) <;> first | (cases hv; done) | skip
      rename_i k z
      rw [hi.eq rfl]
      split at hv
      case isFalse => cases hv
      rename_i hlt
      obtain rfl := Option.some.inj hv
      simp only [VL] at hx
      obtain ⟨p, s', cap, ex, rfl, hn, hx⟩ := hx
      obtain ⟨j, g1, g2, _⟩ := hx.resolve_right (fun h => by have := h.2.1; omega)
      have hps := g2 (by omega)
      subst hps
      obtain rfl := hn.2.2 (by simp)
      simp only
      rw [if_pos hlt]
      exact ⟨_, rfl, by simp only [VL]; exact ⟨j, g1, rfl⟩⟩
    | _ => simp at hv
  | index g n sz x i =>
    simp only [POp.okc, Bool.and_eq_true] at hc
    have hx := ev_rel h hc.1
    have hi := ev_rel h hc.2
    simp only [POp.sub, vP, aP] at hv ⊢
    generalize (x.sub ρ).ev [] = X at *
    generalize (x.sub σ).ev [] = X' at *
    generalize (i.sub ρ).ev [] = I at *
    cases X <;> (try simp only at hv) <;> first | (cases hv; done) | skip
    cases I <;> (try simp only at hv) <;> first | (cases hv; done) | skip
    rw [hi.eq rfl]
    simp only [VL] at hx
    obtain ⟨l', rfl, hl⟩ := hx
    simp only
    split at hv
    case isFalse => cases hv
    rename_i hlt
    rw [if_pos hlt]
    exact aPart_rel hl hv
  | indexStr x i =>
    simp only [POp.okc, Bool.and_eq_true] at hc
    have hx := ev_rel h hc.1
    have hi := ev_rel h hc.2
    simp only [POp.sub, vP, aP] at hv ⊢
    generalize (x.sub ρ).ev [] = X at *
    generalize (i.sub ρ).ev [] = I at *
    cases X <;> (try simp only at hv) <;> first | (cases hv; done) | skip
    cases I <;> (try simp only at hv) <;> first | (cases hv; done) | skip
    rw [hi.eq rfl, hx.eq rfl]
    simp only
    split at hv
    case isFalse => cases hv
    rename_i hlt
    rw [if_pos hlt, hv]
    obtain ⟨b, _, rfl⟩ := Option.map_eq_some_iff.1 hv
    exact ⟨_, rfl, by simp [VL]⟩
  | extract x i =>
    have hx := ev_rel h hc
    simp only [POp.sub, vP, aP] at hv ⊢
    generalize (x.sub ρ).ev [] = X at *
    generalize (x.sub σ).ev [] = X' at *
    cases X <;> (try simp only at hv) <;> first | (cases hv; done) | skip
    simp only [VL] at hx
    obtain ⟨l', rfl, hl⟩ := hx
    exact hl.get i v hv
  | len s x =>
    have hx := ev_rel h hc
    generalize hX : (x.sub ρ).ev [] = X at *
    generalize hX' : (x.sub σ).ev [] = X' at *
    cases s with
    | true =>
      simp only [POp.sub, vP, aP, hX, hX'] at hv ⊢
      cases X <;> (try simp only at hv) <;> first | (cases hv; done) | skip
      rw [hx.eq rfl]
      obtain rfl := Option.some.inj hv
      exact ⟨_, rfl, by simp [VL]⟩
    | false =>
      simp only [POp.sub, vP, aP, hX, hX'] at hv ⊢
      cases X with
      | slice p sz' len cap ex =>
        simp only [Option.some.injEq] at hv
        subst hv
        cases p with
        | none => simp only [VL] at hx; subst hx; exact ⟨_, rfl, by simp [VL]⟩
        | some q => simp only [VL] at hx; obtain ⟨j, h1, rfl⟩ := hx; exact ⟨_, rfl, by simp [VL]⟩
      | list sz' len cs ex =>
        simp only [Option.some.injEq] at hv
        subst hv
        simp only [VL] at hx
        rcases hx with ⟨rfl, rfl, s', rfl⟩ | ⟨b, o, cap, ex', rfl, _⟩
        · exact ⟨_, rfl, by simp [VL]⟩
        · exact ⟨_, rfl, by simp [VL]⟩
      | acc b off sz' n w =>
        simp only [Option.some.injEq] at hv
        subst hv
        simp only [VL] at hx
        obtain ⟨p, s', cap, ex, rfl, _⟩ := hx
        exact ⟨_, rfl, by simp [VL]⟩
      | _ => simp at hv
  | cap x =>
    have hx := ev_rel h hc
    generalize hX : (x.sub ρ).ev [] = X at *
    generalize hX' : (x.sub σ).ev [] = X' at *
    simp only [POp.sub, vP, aP, hX, hX'] at hv ⊢
    cases X with
    | slice p sz' len cap ex =>
      cases ex <;> (try simp only at hv) <;> first | (cases hv; done) | skip
      simp only [Option.some.injEq] at hv
      subst hv
      cases p with
      | none => simp only [VL] at hx; subst hx; exact ⟨_, rfl, by simp [VL]⟩
      | some q => simp only [VL] at hx; obtain ⟨j, h1, rfl⟩ := hx; exact ⟨_, rfl, by simp [VL]⟩
    | list sz' len cs ex =>
      cases ex <;> (try simp only at hv) <;> first | (cases hv; done) | skip
      simp only [Option.some.injEq] at hv
      subst hv
      simp only [VL] at hx
      rcases hx with ⟨rfl, rfl, s', rfl⟩ | ⟨b, o, cap, ex', rfl, _, h2, _⟩
      · exact ⟨_, rfl, by simp [VL]⟩
      obtain ⟨rfl, rfl⟩ := h2 trivial
      exact ⟨_, rfl, by simp [VL]⟩
    | _ => simp at hv
  | minmax m xs =>
    have hx := evs_rel h hc
    simp only [POp.sub, vP, aP] at hv ⊢
    generalize (xs.map (AX.sub ρ)).map (AX.ev []) = X at *
    generalize (xs.map (AX.sub σ)).map (AX.ev []) = X' at *
    cases X with
    | nil => simp at hv
    | cons x r =>
      cases X' with
      | nil => simp [VLL] at hx
      | cons x' r' =>
        simp only [VLL] at hx
        exact aFold_rel hx.1 hx.2 hv
end
end
end Go.Proofs.Ytachollgbplikaa
