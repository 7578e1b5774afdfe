/- The closed law FrameKnown: hash.Sum told by its plain function; the machine's run beside it. -/
import Derived.Test.YtkedeiklmpkgkaaL3
import Derived.Test.YtkedeiklmpkgkaaY1
set_option linter.all false
set_option linter.unusedSimpArgs false
set_option maxRecDepth 100000
namespace Go.Proofs.Ytkedeiklmpkgkaa

theorem sum_inner (x8 : List UInt8) (parts : List (List UInt8)) (s7 : Int × Int) (h : x8.length < 1000000000000) (a : Int) : hash_Sum_L0 x8 parts s7 (a, 0) = some (sumS a x8) := by
  refine loop_run (fun i => (sumS a (x8.take i), (i : Int))) x8.length _ (fun i hi => ?_) ?_ h
  · unfold hash_Sum_L0_s
    simp only
    rw [dec_t (by omega), cond_true, getI_at hi, Option.bind_some, wrap_id (by omega) (by omega), wrapU_id (x := (x8[i].toNat : Int)) (by omega) (by have := (x8[i]).toNat_lt; omega), List.take_succ_eq_append_getElem hi]
    simp only [sumS, List.foldl_append, List.foldl_cons, List.foldl_nil, fstep, succ_cast]
  · unfold hash_Sum_L0_s
    simp only
    rw [dec_f (by omega), cond_false, List.take_length]

theorem sum_plain (parts : List (List UInt8)) (h : parts.length < 1000000000000) (h2 : ∀ s ∈ parts, s.length < 1000000000000) : hash_Sum parts = some (sumOf parts) := by
  unfold hash_Sum
  have : hash_Sum_L1 parts (14695981039346656037, 0) = some (sumOf parts) := by
    refine loop_run (fun i => (sumP 14695981039346656037 (parts.take i), (i : Int))) parts.length _ (fun i hi => ?_) ?_ h
    · unfold hash_Sum_L1_s
      simp only
      have hs := h2 parts[i] (List.getElem_mem _)
      rw [dec_t (by omega), cond_true, getI_at hi, Option.bind_some, gd_true (dec_t (by omega)), sum_inner _ _ _ hs, Option.bind_some, wrap_id (by omega) (by omega), List.take_succ_eq_append_getElem hi]
      simp only [sumP, List.foldl_append, List.foldl_cons, List.foldl_nil, fstep, succ_cast]
    · unfold hash_Sum_L1_s
      simp only
      rw [dec_f (by omega), cond_false, List.take_length]
      rfl
  rw [this, Option.bind_some]


mutual
/-- What pointed to what was there, points to it. -/
theorem VR.back {ι ι' : Inj} (h : ι.Le ι') : ∀ (a : AV) (u v : Value), VR ι a u → VR ι' a v → VR ι a v
  | .undef, _, _, _, _ => VR.undef _ _
  | .bool _, _, _, _, e => by simpa [VR] using e
  | .int _ _, _, _, _, e => by simpa [VR] using e
  | .str _, _, _, _, e => by simpa [VR] using e
  | .ptr none, _, _, _, e => by simpa [VR] using e
  | .ptr (some (b, o)), _, _, d, e => by
    simp only [VR] at d e ⊢
    obtain ⟨l0, k1, _⟩ := d
    obtain ⟨l, h1, h2⟩ := e
    rw [h _ _ k1] at h1
    obtain rfl := Option.some.inj h1
    exact ⟨l0, k1, h2⟩
  | .slice none _ _ _ _, _, _, _, e => by simpa [VR] using e
  | .slice (some (b, o)) _ _ _ _, _, _, d, e => by
    simp only [VR] at d e ⊢
    obtain ⟨l0, _, _, k1, _⟩ := d
    obtain ⟨l, a, c, h1, r⟩ := e
    rw [h _ _ k1] at h1
    obtain rfl := Option.some.inj h1
    exact ⟨l0, a, c, k1, r⟩
  | .map none, _, _, _, e => by simpa [VR] using e
  | .map (some r), _, _, d, e => by
    simp only [VR] at d e ⊢
    obtain ⟨l0, k1, _⟩ := d
    obtain ⟨l, h1, h2⟩ := e
    rw [h _ _ k1] at h1
    obtain rfl := Option.some.inj h1
    exact ⟨l0, k1, h2⟩
  | .func f caps, _, _, d, e => by
    simp only [VR] at d e ⊢
    obtain ⟨cs0, _, k2⟩ := d
    obtain ⟨cs, h1, h2⟩ := e
    exact ⟨cs, h1, VRL.back h _ _ _ k2 h2⟩
  | .nilFunc, _, _, _, e => by simpa [VR] using e
  | .list .., _, _, _, e => by simp [VR] at e
  | .elem .., _, _, _, e => by simp [VR] at e
  | .acc .., _, _, _, e => by simp [VR] at e
  | .agg cs, _, _, d, e => by
    simp only [VR] at d e ⊢
    obtain ⟨_, _, k2⟩ := d
    obtain ⟨vs, h1, h2⟩ := e
    exact ⟨vs, h1, VRL.back h _ _ _ k2 h2⟩
  | .tuple cs, _, _, d, e => by
    simp only [VR] at d e ⊢
    obtain ⟨_, _, k2⟩ := d
    obtain ⟨vs, h1, h2⟩ := e
    exact ⟨vs, h1, VRL.back h _ _ _ k2 h2⟩
theorem VRL.back {ι ι' : Inj} (h : ι.Le ι') : ∀ (l : List AV) (q r : List Value), VRL ι l q → VRL ι' l r → VRL ι l r
  | [], [], [], _, _ => by simp [VRL]
  | a :: l, u :: q, v :: r, d, e => by
    simp only [VRL] at d e ⊢
    exact ⟨VR.back h _ _ _ d.1 e.1, VRL.back h _ _ _ d.2 e.2⟩
  | [], _, _ :: _, _, e => by simp [VRL] at e
  | _ :: _, _, [], _, e => by simp [VRL] at e
  | [], _ :: _, _, d, _ => by simp [VRL] at d
  | _ :: _, [], _, d, _ => by simp [VRL] at d
end
theorem ERL.back {ι ι' : Inj} (h : ι.Le ι') : ∀ {l : List (AV × AV)} {q r : List MapEntry}, ERL ι l q → ERL ι' l r → ERL ι l r
  | [], [], [], _, _ => by simp [ERL]
  | _ :: l, _ :: q, _ :: r, d, e => by
    simp only [ERL] at d e ⊢
    exact ⟨VR.back h _ _ _ d.1 e.1, VR.back h _ _ _ d.2.1 e.2.1, ERL.back h d.2.2 e.2.2⟩
  | [], _, _ :: _, _, e => by simp [ERL] at e
  | _ :: _, _, [], _, e => by simp [ERL] at e
  | [], _ :: _, _, d, _ => by simp [ERL] at d
  | _ :: _, [], _, d, _ => by simp [ERL] at d
theorem BR.back {ι ι' : Inj} (h : ι.Le ι') {x : Blk} {l l0 : Loc} {o o0 : Obj} (d : BR ι x l0 o0) (r : BR ι' x l o) : BR ι x l o := by
  cases x with
  | cells c ro slack =>
    obtain ⟨_, _, _, _, _, _, _, k5, _⟩ := d
    obtain ⟨cs, elem, fz, h1, h2, h3, h4, h5, h6⟩ := r
    exact ⟨cs, elem, fz, h1, h2, h3, h4, fun i a hi => let ⟨v, a1, a2, a3⟩ := h5 i a hi; let ⟨_, _, _, b3⟩ := k5 i a hi; ⟨v, a1, a2, VR.back h _ _ _ b3 a3⟩, h6⟩
  | map es =>
    obtain ⟨_, _, _, k2⟩ := d
    obtain ⟨es', clock, h1, h2⟩ := r
    exact ⟨es', clock, h1, ERL.back h k2 h2⟩

def foldF (f : Int → Int → Int) : List UInt8 → Int → Int
  | [], h => h
  | c :: s, h => match h with
    | .ofNat m => match m with
      | 0 => foldF f s (f (.ofNat 0) (c.toNat : Int))
      | m + 1 => foldF f s (f (.ofNat (m + 1)) (c.toNat : Int))
    | h => foldF f s (f h (c.toNat : Int))
theorem foldF_eq (f : Int → Int → Int) : ∀ (s : List UInt8) (h : Int), foldF f s h = s.foldl (fun h c => f h (c.toNat : Int)) h
  | [], h => rfl
  | c :: s, h => by
    have e : foldF f (c :: s) h = foldF f s (f h (c.toNat : Int)) := by
      cases h with
      | ofNat m => cases m <;> rfl
      | negSucc m => rfl
    rw [e, foldF_eq f s, List.foldl_cons]
def sumV (s : List UInt8) : Int := fstep (foldF fstep s 14695981039346656037) 256
theorem sumV_eq (s : List UInt8) : sumV s = sumOf [s] := by
  unfold sumV sumOf sumP sumS
  rw [foldF_eq, List.foldl_cons, List.foldl_nil]
def lenOk (s : List UInt8) : Bool := Nat.ble s.length 1000000
def guardS {α : Type} (b : Bool) (x : Option α) : Option α := match b with
  | true => x
  | false => none
theorem guardS_is {α : Type} {b : Bool} {x : Option α} {r : α} (h : guardS b x = some r) : b = true ∧ x = some r := by
  cases b
  · cases h
  · exact ⟨rfl, h⟩
def giveN (v : Int) (M : Heap) : Option (AV × Heap) := match v with
  | .ofNat m => match m with
    | 0 => none
    | m + 1 => some (.int .u64 (.ofNat (m + 1)), M)
  | _ => none
theorem giveN_is {n : Int} {M : Heap} {a : AV} {M' : Heap} (h : giveN n M = some (a, M')) : M' = M ∧ a = .int .u64 n := by
  cases n with
  | negSucc m => cases h
  | ofNat m =>
    cases m with
    | zero => cases h
    | succ m =>
      simp only [giveN, Option.some.injEq, Prod.mk.injEq] at h
      exact ⟨h.2.symm, h.1.symm⟩
/-- What hash.Sum of one text comes to. -/
def sumC (M : Heap) : Option Blk → Option (AV × Heap)
  | some (.cells [.str s] _ _) => guardS (lenOk s) (giveN (sumV s) M)
  | _ => none
theorem sumC_is {M : Heap} {x : Option Blk} {r : AV × Heap} (h : sumC M x = some r) : ∃ s ro sl, x = some (.cells [.str s] ro sl) ∧ guardS (lenOk s) (giveN (sumV s) M) = some r := by
  unfold sumC at h
  split at h
  · exact ⟨_, _, _, rfl, h⟩
  · cases h
def sumG : List AV → Heap → Option (AV × Heap) := fun args M => match args with
  | [.slice (some (b, 0)) 1 1 1 true] => sumC M (M.get b)
  | _ => none
theorem sumG_is0 {args : List AV} {M : Heap} {r : AV × Heap} (h : sumG args M = some r) : ∃ b, args = [.slice (some (b, 0)) 1 1 1 true] ∧ sumC M (M.get b) = some r := by
  unfold sumG at h
  split at h
  · exact ⟨_, rfl, h⟩
  · cases h
theorem sumG_is {args : List AV} {M : Heap} {v : AV} {M' : Heap} (h : sumG args M = some (v, M')) : M' = M ∧ ∃ b s ro sl n, args = [.slice (some (b, 0)) 1 1 1 true] ∧ M.get b = some (.cells [.str s] ro sl) ∧ lenOk s = true ∧ v = .int .u64 n ∧ n = sumV s := by
  obtain ⟨b, h1, h2⟩ := sumG_is0 h
  obtain ⟨s, ro, sl, h3, h4⟩ := sumC_is h2
  obtain ⟨h5, h6⟩ := guardS_is h4
  obtain ⟨h7, h8⟩ := giveN_is h6
  exact ⟨h7, b, s, ro, sl, sumV s, h1, h3, h5, h8, rfl⟩
theorem lenOk_is {s : List UInt8} (h : lenOk s = true) : s.length ≤ 1000000 := Nat.le_of_ble_eq_true h
theorem sumG_sound : Sound Try.prog 101 sumG := by
  intro args M v M' h ι w vs r hv
  obtain ⟨rfl, b, s, ro, sl, n, rfl, hb, hl, rfl, hn⟩ := sumG_is h
  have hw : M'.Ok := fun b hb => (r.fresh b hb).1
  have hlt : b < M'.next := by
    rcases Nat.lt_or_ge b M'.next with q | q
    · exact q
    · rw [hw b q] at hb; cases hb
  have hl := lenOk_is hl
  have hs : hash_Sum [s] = some n := by
    rw [hn, sumV_eq]
    exact sum_plain [s] (by simp) (fun t ht => by simp at ht; subst ht; omega)
  have hvl : VLL M' (OR (fun _ => False) VI.none) VI.none [l_S [s]] [.slice (some (b, 0)) 1 1 1 true] := by
    rw [OR_none]
    refine ⟨?_, trivial⟩
    show VL _ _ _ (.list 1 1 [.str s] false) _
    simp only [VL]
    refine .inr ⟨b, 0, 1, true, rfl, Nat.le_refl _, (fun h => nomatch h), rfl, fun _ => ⟨_, ro, sl, hb, (fun h => h), hlt, by simp, ?_⟩⟩
    simp [VLL, VL]
  obtain ⟨a, M1, ι1, e1, _, e2, e3⟩ := s_hash_Sum 0 hs _ VI.none M' _ (VS.empty hw) hvl
  have e4 : a = .int .u64 n := e3
  subst e4
  have keep : ∀ j, j < M'.next → M1.get j = M'.get j := fun j hj => (e2.keep.get j hj (fun h => by simp [own, VI.none] at h)).1
  refine (law_sound (G := wG) (T := atabT) wG_ok (fun _ _ h => atab_is h) KK 1 (f := 101) rfl _ M' _ M1 e1 ι w vs r hv).mono ?_
  rintro e w' ⟨ι', v', rfl, hv', t⟩
  have hv2 : VR ι (.int .u64 n) v' := by
    simp only [VR] at hv' ⊢
    exact hv'
  have hlt : ∀ {j x}, M'.get j = some x → j < M'.next := fun {j x} h => by
    rcases Nat.lt_or_ge j M'.next with q | q
    · exact q
    · rw [hw j q] at h; cases h
  have rr : R ι M' w' := by
    refine ⟨fun j x hj => ?_, fun j j' x x' l l' hj hj' hl hl' hne ho => ?_, r.fresh⟩
    · have q := hlt hj
      obtain ⟨l, o, h1, h2, h3⟩ := t.rel.blk j x (by rw [keep j q]; exact hj)
      refine ⟨l, o, by rw [← t.agree j q]; exact h1, h2, ?_⟩
      obtain ⟨_, _, _, _, k3⟩ := r.blk j x hj
      exact BR.back (t.le r) k3 h3
    · have q := hlt hj
      have q' := hlt hj'
      exact t.rel.apart j j' x x' l l' (by rw [keep j q]; exact hj) (by rw [keep j' q']; exact hj') (by rw [t.agree j q]; exact hl) (by rw [t.agree j' q']; exact hl') hne ho
  exact ⟨ι, v', rfl, hv2, rr, fun _ _ => rfl, Nat.le_refl _, fun _ _ h => h, fun _ _ h _ => h, fun b x l h1 h2 h3 _ => ⟨b, x, l, h1, h2, h3, rfl⟩, t.keep, t.size, t.os, t.tape, t.output⟩
def gF : Sums := fun f => match Nat.beq f 101 with
  | true => some sumG
  | false => wG f
theorem gF_ok : ∀ f g, gF f = some g → (Bodied Try.prog f ∧ Sound Try.prog f g) ∨ ExtOk Try.prog f g := by
  intro f g h
  unfold gF at h
  split at h
  · rename_i e
    obtain rfl := Nat.eq_of_beq_eq_true e
    obtain rfl := Option.some.inj h
    exact .inl ⟨cFunc_bodied (h := _) (WF101_is), sumG_sound⟩
  · exact wG_ok f g h
end Go.Proofs.Ytkedeiklmpkgkaa
