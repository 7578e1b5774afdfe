/- V, second part: what a value of V says of a value of the abstract machine; the pure operations. -/
import Derived.Test.YtachollgbplikaaAm25
set_option linter.all false
set_option linter.unusedSimpArgs false
namespace Go.Proofs.Ytachollgbplikaa

/-- Where V's blocks are; which are nothing but what is empty; which are frozen. -/
structure VI where
  to : Nat → Option Nat
  sol : Nat → Bool
  gone : Nat → Bool

instance : CoeFun VI (fun _ => Nat → Option Nat) := ⟨VI.to⟩
def VI.none : VI := ⟨fun _ => Option.none, fun _ => false, fun _ => false⟩
def VI.Le (κ κ' : VI) (S : List Nat) : Prop := ∀ i, i ∈ S → (∀ j, κ i = some j → κ' i = some j) ∧ (κ.sol i = true → κ'.sol i = true)
theorem VI.Le.refl (κ : VI) (S : List Nat) : VI.Le κ κ S := fun _ _ => ⟨fun _ h => h, fun h => h⟩
theorem VI.Le.of_none (κ : VI) (S : List Nat) : VI.Le VI.none κ S := fun _ _ => ⟨(fun _ h => by cases h), (fun h => by cases h)⟩
theorem VI.Le.sub {κ κ' : VI} {S T : List Nat} (h : VI.Le κ κ' S) (k : ∀ i, i ∈ T → i ∈ S) : VI.Le κ κ' T := fun i hi => h i (k i hi)

mutual
/-- 'κ': where V's blocks are; 'O': the machine's blocks that V's blocks are. -/
def VL (M : Heap) (O : Nat → Prop) : VI → AV → AV → Prop
  | _, .undef, _ => True
  | _, .bool b, a => a = .bool b
  | _, .int k n, a => a = .int k n
  | _, .str s, a => a = .str s
  | _, .ptr none, a => a = .ptr none
  | κ, .ptr (some q), a => ∃ j, κ q.1 = some j ∧ a = .ptr (some (j, q.2))
  | _, .slice none sz len cap ex, a => a = .slice none sz len cap ex
  | κ, .slice (some q) sz len cap ex, a => ∃ j, κ q.1 = some j ∧ a = .slice (some (j, q.2)) sz len cap ex
  | _, .map none, a => a = .map none
  | κ, .map (some r), a => ∃ j, κ r = some j ∧ a = .map (some j)
  | κ, .func f cs, a => ∃ cs', a = .func f cs' ∧ VLL M O κ cs cs'
  | _, .nilFunc, a => a = .nilFunc
  | κ, .agg cs, a => ∃ cs', a = .agg cs' ∧ VLL M O κ cs cs'
  | κ, .tuple cs, a => ∃ cs', a = .tuple cs' ∧ VLL M O κ cs cs'
  | _, .list sz len cs ex, a => (len = 0 ∧ cs = [] ∧ ∃ s', a = .slice none s' 0 0 true) ∨ ∃ b o cap ex', a = .slice (some (b, o)) sz len cap ex' ∧ len ≤ cap ∧ (ex = true → ex' = true ∧ cap = len) ∧ cs.length = len * sz ∧
      (len ≠ 0 → ∃ c ro sl, M.get b = some (.cells c ro sl) ∧ ¬ O b ∧ b < M.next ∧ o + len * sz ≤ c.length ∧ VLL M O VI.none cs ((c.drop o).take (len * sz)))
  | _, .elem cs, a => ∃ b o c ro sl, a = .ptr (some (b, o)) ∧ M.get b = some (.cells c ro sl) ∧ ¬ O b ∧ b < M.next ∧ VLL M O VI.none cs ((c.drop o).take cs.length)
  | κ, .acc b o sz n w, a => ∃ p s' cap ex, a = .slice p s' n cap ex ∧ (n ≤ cap ∧ (p = none → cap = 0 ∧ ex = true) ∧ (p ≠ none → s' = sz)) ∧ ((∃ j, κ b = some j ∧ (n ≠ 0 → p = some (j, o)) ∧ (w = true → o = 0 ∧ cap = n ∧ (p = some (j, 0) ∨ (n = 0 ∧ ex = true)))) ∨ (κ.sol b = true ∧ n = 0 ∧ (w = true → o = 0 ∧ cap = 0 ∧ ex = true)))
def VLL (M : Heap) (O : Nat → Prop) : VI → List AV → List AV → Prop
  | _, [], [] => True
  | κ, a :: l, v :: r => VL M O κ a v ∧ VLL M O κ l r
  | _, _, _ => False
end

/-- What is not V's own stays as it is. -/
structure Keeps (M : Heap) (O : Nat → Prop) (M' : Heap) (O' : Nat → Prop) : Prop where
  next : M.next ≤ M'.next
  get : ∀ b, b < M.next → ¬ O b → M'.get b = M.get b ∧ ¬ O' b

theorem Keeps.refl (M : Heap) (O : Nat → Prop) : Keeps M O M O := ⟨Nat.le_refl _, fun _ _ h => ⟨rfl, h⟩⟩
theorem Keeps.trans {M M1 M2 : Heap} {O O1 O2 : Nat → Prop} (h : Keeps M O M1 O1) (k : Keeps M1 O1 M2 O2) : Keeps M O M2 O2 :=
  ⟨Nat.le_trans h.next k.next, fun b hb ho => by
    obtain ⟨e1, o1⟩ := h.get b hb ho
    obtain ⟨e2, o2⟩ := k.get b (Nat.lt_of_lt_of_le hb h.next) o1
    exact ⟨e2.trans e1, o2⟩⟩

mutual
theorem VL.mono {M M' : Heap} {O O' : Nat → Prop} (hk : Keeps M O M' O') : ∀ (κ κ' : VI) (v a : AV), VI.Le κ κ' (idsOf v) → VL M O κ v a → VL M' O' κ' v a
  | _, _, .undef, _, _, _ => by simp [VL]
  | _, _, .bool _, _, _, e => by simpa [VL] using e
  | _, _, .int _ _, _, _, e => by simpa [VL] using e
  | _, _, .str _, _, _, e => by simpa [VL] using e
  | _, _, .ptr none, _, _, e => by simpa [VL] using e
  | κ, κ', .ptr (some q), _, h, e => by
    simp only [VL] at e ⊢
    obtain ⟨j, h1, h2⟩ := e
    exact ⟨j, (h _ (by simp [idsOf])).1 _ h1, h2⟩
  | _, _, .slice none _ _ _ _, _, _, e => by simpa [VL] using e
  | κ, κ', .slice (some q) _ _ _ _, _, h, e => by
    simp only [VL] at e ⊢
    obtain ⟨j, h1, h2⟩ := e
    exact ⟨j, (h _ (by simp [idsOf])).1 _ h1, h2⟩
  | _, _, .map none, _, _, e => by simpa [VL] using e
  | κ, κ', .map (some r), _, h, e => by
    simp only [VL] at e ⊢
    obtain ⟨j, h1, h2⟩ := e
    exact ⟨j, (h _ (by simp [idsOf])).1 _ h1, h2⟩
  | κ, κ', .func f cs, _, h, e => by
    simp only [VL] at e ⊢
    obtain ⟨cs', h1, h2⟩ := e
    exact ⟨cs', h1, VLL.mono hk κ κ' cs cs' (h.sub fun i hi => by simpa [idsOf] using hi) h2⟩
  | _, _, .nilFunc, _, _, e => by simpa [VL] using e
  | κ, κ', .agg cs, _, h, e => by
    simp only [VL] at e ⊢
    obtain ⟨cs', h1, h2⟩ := e
    exact ⟨cs', h1, VLL.mono hk κ κ' cs cs' (h.sub fun i hi => by simpa [idsOf] using hi) h2⟩
  | κ, κ', .tuple cs, _, h, e => by
    simp only [VL] at e ⊢
    obtain ⟨cs', h1, h2⟩ := e
    exact ⟨cs', h1, VLL.mono hk κ κ' cs cs' (h.sub fun i hi => by simpa [idsOf] using hi) h2⟩
  | _, _, .list sz len cs ex, _, _, e => by
    simp only [VL] at e ⊢
    rcases e with e | ⟨b, o, cap, ex', h1, h2, h3, h4, h5⟩
    · exact .inl e
    refine .inr ⟨b, o, cap, ex', h1, h2, h3, h4, fun hl => ?_⟩
    obtain ⟨c, ro, sl, g1, g2, g3, g4, g5⟩ := h5 hl
    obtain ⟨e1, e2⟩ := hk.get b g3 g2
    exact ⟨c, ro, sl, e1.trans g1, e2, Nat.lt_of_lt_of_le g3 hk.next, g4, VLL.mono hk _ _ cs _ (VI.Le.refl _ _) g5⟩
  | _, _, .elem cs, _, _, e => by
    simp only [VL] at e ⊢
    obtain ⟨b, o, c, ro, sl, h1, g1, g2, g3, g5⟩ := e
    obtain ⟨e1, e2⟩ := hk.get b g3 g2
    exact ⟨b, o, c, ro, sl, h1, e1.trans g1, e2, Nat.lt_of_lt_of_le g3 hk.next, VLL.mono hk _ _ cs _ (VI.Le.refl _ _) g5⟩
  | κ, κ', .acc b o sz n w, _, h, e => by
    simp only [VL] at e ⊢
    obtain ⟨p, s', cap, ex, h1, h2, h3⟩ := e
    refine ⟨p, s', cap, ex, h1, h2, h3.imp (fun ⟨j, h4, h5⟩ => ⟨j, (h _ (by simp [idsOf])).1 _ h4, h5⟩) (fun ⟨h4, h5⟩ => ⟨(h _ (by simp [idsOf])).2 h4, h5⟩)⟩
theorem VLL.mono {M M' : Heap} {O O' : Nat → Prop} (hk : Keeps M O M' O') : ∀ (κ κ' : VI) (l r : List AV), VI.Le κ κ' (idsOfL l) → VLL M O κ l r → VLL M' O' κ' l r
  | _, _, [], [], _, _ => by simp [VLL]
  | κ, κ', a :: l, v :: r, h, e => by
    simp only [VLL] at e ⊢
    exact ⟨VL.mono hk κ κ' a v (h.sub fun i hi => by simp [idsOfL, hi]) e.1, VLL.mono hk κ κ' l r (h.sub fun i hi => by simp [idsOfL, hi]) e.2⟩
  | _, _, [], _ :: _, _, e => by simp [VLL] at e
  | _, _, _ :: _, [], _, e => by simp [VLL] at e
end

section
variable {M : Heap} {O : Nat → Prop} {κ : VI}

mutual
/-- What a value names is somewhere. -/
theorem VL.ids : ∀ (v a : AV), VL M O κ v a → ∀ i, i ∈ idsOf v → (∃ j, κ i = some j) ∨ κ.sol i = true
  | .undef, _, _, _, hi => by simp [idsOf] at hi
  | .bool _, _, _, _, hi => by simp [idsOf] at hi
  | .int _ _, _, _, _, hi => by simp [idsOf] at hi
  | .str _, _, _, _, hi => by simp [idsOf] at hi
  | .ptr none, _, _, _, hi => by simp [idsOf] at hi
  | .ptr (some q), _, h, i, hi => by
    simp only [VL] at h
    obtain ⟨j, h1, _⟩ := h
    simp [idsOf] at hi
    exact .inl ⟨j, hi ▸ h1⟩
  | .slice none _ _ _ _, _, _, _, hi => by simp [idsOf] at hi
  | .slice (some q) _ _ _ _, _, h, i, hi => by
    simp only [VL] at h
    obtain ⟨j, h1, _⟩ := h
    simp [idsOf] at hi
    exact .inl ⟨j, hi ▸ h1⟩
  | .map none, _, _, _, hi => by simp [idsOf] at hi
  | .map (some r), _, h, i, hi => by
    simp only [VL] at h
    obtain ⟨j, h1, _⟩ := h
    simp [idsOf] at hi
    exact .inl ⟨j, hi ▸ h1⟩
  | .func f cs, _, h, i, hi => by
    simp only [VL] at h
    obtain ⟨cs', _, h2⟩ := h
    exact VLL.ids cs cs' h2 i (by simpa [idsOf] using hi)
  | .nilFunc, _, _, _, hi => by simp [idsOf] at hi
  | .agg cs, _, h, i, hi => by
    simp only [VL] at h
    obtain ⟨cs', _, h2⟩ := h
    exact VLL.ids cs cs' h2 i (by simpa [idsOf] using hi)
  | .tuple cs, _, h, i, hi => by
    simp only [VL] at h
    obtain ⟨cs', _, h2⟩ := h
    exact VLL.ids cs cs' h2 i (by simpa [idsOf] using hi)
  | .list .., _, _, _, hi => by simp [idsOf] at hi
  | .elem _, _, _, _, hi => by simp [idsOf] at hi
  | .acc b o sz n w, _, h, i, hi => by
    simp only [VL] at h
    obtain ⟨p, s', cap, ex, h1, h2, h3⟩ := h
    simp [idsOf] at hi
    subst hi
    exact h3.imp (fun ⟨j, h4, _⟩ => ⟨j, h4⟩) (fun h => h.1)
theorem VLL.ids : ∀ (l r : List AV), VLL M O κ l r → ∀ i, i ∈ idsOfL l → (∃ j, κ i = some j) ∨ κ.sol i = true
  | [], _, _, i, hi => by simp [idsOfL] at hi
  | a :: l, [], h, _, _ => by simp [VLL] at h
  | a :: l, b :: r, h, i, hi => by
    simp only [VLL] at h
    simp only [idsOfL, List.mem_append] at hi
    rcases hi with hi | hi
    · exact VL.ids a b h.1 i hi
    · exact VLL.ids l r h.2 i hi
end

theorem VLL.length : ∀ {l r : List AV}, VLL M O κ l r → l.length = r.length
  | [], [], _ => rfl
  | _ :: l, _ :: r, e => by
    simp only [VLL] at e
    simp [VLL.length e.2]
  | [], _ :: _, e => by simp [VLL] at e
  | _ :: _, [], e => by simp [VLL] at e

theorem VLL.get : ∀ {l r : List AV}, VLL M O κ l r → ∀ (i : Nat) (a : AV), l[i]? = some a → ∃ v, r[i]? = some v ∧ VL M O κ a v
  | [], _, _, i, a, h => by simp at h
  | a :: l, v :: r, e, i, x, h => by
    simp only [VLL] at e
    cases i with
    | zero =>
      simp at h
      subst h
      exact ⟨v, by simp, e.1⟩
    | succ i => simpa using VLL.get e.2 i x (by simpa using h)
  | _ :: _, [], e, _, _, _ => by simp [VLL] at e

theorem VLL.append : ∀ {l l' r r' : List AV}, VLL M O κ l r → VLL M O κ l' r' → VLL M O κ (l ++ l') (r ++ r')
  | [], _, [], _, _, h => by simpa using h
  | a :: l, _, v :: r, _, e, h => by
    simp only [VLL, List.cons_append] at e ⊢
    exact ⟨e.1, VLL.append e.2 h⟩
  | [], _, _ :: _, _, e, _ => by simp [VLL] at e
  | _ :: _, _, [], _, e, _ => by simp [VLL] at e

theorem VLL.drop : ∀ {l r : List AV} (n : Nat), VLL M O κ l r → VLL M O κ (l.drop n) (r.drop n)
  | _, _, 0, e => by simpa using e
  | [], [], _ + 1, e => by simpa using e
  | _ :: l, _ :: r, n + 1, e => by
    simp only [VLL] at e
    simpa using VLL.drop n e.2
  | [], _ :: _, _ + 1, e => by simp [VLL] at e
  | _ :: _, [], _ + 1, e => by simp [VLL] at e

theorem VLL.take : ∀ {l r : List AV} (n : Nat), VLL M O κ l r → VLL M O κ (l.take n) (r.take n)
  | _, _, 0, e => by simp [VLL]
  | [], [], _ + 1, e => by simp [VLL]
  | _ :: l, _ :: r, n + 1, e => by
    simp only [VLL] at e
    simp only [List.take_succ_cons, VLL]
    exact ⟨e.1, VLL.take n e.2⟩
  | [], _ :: _, _ + 1, e => by simp [VLL] at e
  | _ :: _, [], _ + 1, e => by simp [VLL] at e

theorem VLL.same {l r : List AV} (h : VLL M O κ l r) {n : Nat} (hn : n ≤ l.length) : n ≤ r.length := by rw [← h.length]; exact hn

theorem VL.isCell {v a : AV} (h : v.isCell = true) (r : VL M O κ v a) : a.isCell = true := by
  cases v with
  | undef => simp [AV.isCell] at h
  | agg _ => simp [AV.isCell] at h
  | tuple _ => simp [AV.isCell] at h
  | ptr p => cases p <;> simp only [VL] at r <;> first | (subst r; rfl) | (obtain ⟨_, _, rfl⟩ := r; rfl)
  | slice p => cases p <;> simp only [VL] at r <;> first | (subst r; rfl) | (obtain ⟨_, _, rfl⟩ := r; rfl)
  | map p => cases p <;> simp only [VL] at r <;> first | (subst r; rfl) | (obtain ⟨_, _, rfl⟩ := r; rfl)
  | func f cs => simp only [VL] at r; obtain ⟨_, rfl, _⟩ := r; rfl
  | list => simp only [VL] at r; rcases r with ⟨_, _, _, rfl⟩ | ⟨_, _, _, _, rfl, _⟩ <;> rfl
  | elem => simp only [VL] at r; obtain ⟨_, _, _, _, _, rfl, _⟩ := r; rfl
  | acc => simp only [VL] at r; obtain ⟨_, _, _, _, rfl, _⟩ := r; rfl
  | _ => simp only [VL] at r; subst r; rfl

theorem VL.cells {v a : AV} {cs : List AV} (h : v.cells? = some cs) (r : VL M O κ v a) : ∃ cs', a.cells? = some cs' ∧ VLL M O κ cs cs' := by
  cases v with
  | undef => simp [AV.cells?] at h
  | tuple _ => simp [AV.cells?] at h
  | agg l =>
    simp only [AV.cells?] at h
    split at h
    case isFalse => cases h
    rename_i hall
    obtain rfl := Option.some.inj h
    simp only [VL] at r
    obtain ⟨cs', rfl, hr⟩ := r
    refine ⟨cs', ?_, hr⟩
    simp only [AV.cells?]
    rw [if_pos]
    rw [List.all_eq_true]
    intro x hx
    obtain ⟨i, hi⟩ := List.mem_iff_getElem?.1 hx
    have hlt : i < l.length := by rw [hr.length]; exact (List.getElem?_eq_some_iff.1 hi).1
    obtain ⟨y, hy, hyx⟩ := hr.get i _ (List.getElem?_eq_getElem hlt)
    rw [hi] at hy
    obtain rfl := Option.some.inj hy
    exact hyx.isCell (List.all_eq_true.1 hall _ (List.getElem_mem hlt))
  | _ =>
    all_goals
      simp only [AV.cells?, Option.some.injEq] at h
      subst h
      have hc := VL.isCell (by rfl) r
      refine ⟨[a], ?_, by simp only [VLL]; exact ⟨r, trivial⟩⟩
      cases a <;> simp_all [AV.cells?, AV.isCell]

end

/-! ### Constants -/

mutual
def plainC : AV → Bool
  | .ptr (some _) | .slice (some _) _ _ _ _ | .map (some _) | .list .. | .elem _ | .acc .. => false
  | .func _ cs => plainCL cs
  | .agg cs => plainCL cs
  | .tuple cs => plainCL cs
  | _ => true
def plainCL : List AV → Bool
  | [] => true
  | v :: r => plainC v && plainCL r
end

mutual
theorem VL.const {M : Heap} {O : Nat → Prop} {κ : VI} : ∀ v : AV, plainC v = true → VL M O κ v v
  | .undef, _ => by simp [VL]
  | .bool _, _ => by simp [VL]
  | .int _ _, _ => by simp [VL]
  | .str _, _ => by simp [VL]
  | .ptr none, _ => by simp [VL]
  | .ptr (some _), h => by simp [plainC] at h
  | .slice none _ _ _ _, _ => by simp [VL]
  | .slice (some _) _ _ _ _, h => by simp [plainC] at h
  | .map none, _ => by simp [VL]
  | .map (some _), h => by simp [plainC] at h
  | .func f cs, h => by simp only [VL]; exact ⟨cs, rfl, VLL.const cs (by simpa [plainC] using h)⟩
  | .nilFunc, _ => by simp [VL]
  | .agg cs, h => by simp only [VL]; exact ⟨cs, rfl, VLL.const cs (by simpa [plainC] using h)⟩
  | .tuple cs, h => by simp only [VL]; exact ⟨cs, rfl, VLL.const cs (by simpa [plainC] using h)⟩
  | .list .., h => by simp [plainC] at h
  | .elem _, h => by simp [plainC] at h
  | .acc .., h => by simp [plainC] at h
theorem VLL.const {M : Heap} {O : Nat → Prop} {κ : VI} : ∀ l : List AV, plainCL l = true → VLL M O κ l l
  | [], _ => by simp [VLL]
  | v :: r, h => by
    simp only [plainCL, Bool.and_eq_true] at h
    simp only [VLL]
    exact ⟨VL.const v h.1, VLL.const r h.2⟩
end

theorem VLL.reps {M : Heap} {O : Nat → Prop} {κ : VI} {z : List AV} (h : plainCL z = true) : ∀ n, VLL M O κ (reps n z) (reps n z)
  | 0 => by simp [Proofs.Ytachollgbplikaa.reps, VLL]
  | n + 1 => (VLL.const z h).append (VLL.reps h n)

def AX.okc : AX → Bool
  | .t _ => true
  | .c v => plainC v

def okO : Option AX → Bool
  | none => true
  | some x => x.okc

def POp.okc : POp → Bool
  | .move x => x.okc
  | .pick c a b => c.okc && a.okc && b.okc
  | .build z ps => plainCL z && ps.all fun p => p.2.2.okc
  | .nilCheck x => x.okc
  | .bin _ x y => x.okc && y.okc
  | .eqB _ x y => x.okc && y.okc
  | .eqS _ _ x y => x.okc && y.okc
  | .eqP _ x y => x.okc && y.okc
  | .eqN _ x y => x.okc && y.okc
  | .un _ x => x.okc
  | .cvInt _ x => x.okc
  | .cvStr x => x.okc
  | .mkFunc _ cs => cs.all AX.okc
  | .sliceStr x a b => x.okc && okO a && okO b
  | .slice _ x a b c => x.okc && okO a && okO b && okO c
  | .fieldAddr _ x => x.okc
  | .field _ _ _ x => x.okc
  | .idxArr _ _ x i => x.okc && i.okc
  | .idxSlice _ x i => x.okc && i.okc
  | .index _ _ _ x i => x.okc && i.okc
  | .indexStr x i => x.okc && i.okc
  | .extract x _ => x.okc
  | .len _ x => x.okc
  | .cap x => x.okc
  | .minmax _ xs => xs.all AX.okc

def LOp.okc : LOp → Bool
  | .load _ _ x => x.okc
  | .bytesStr x => x.okc
  | .mapLen x => x.okc
  | .lookup _ z x k => plainC z && x.okc && k.okc

def KOp.okc : KOp → Bool
  | .alloc z => plainCL z
  | .box x => x.okc
  | .buildSlice _ _ z ps => plainCL z && ps.all fun p => p.2.okc
  | .makeSlice _ _ z l c => plainCL z && l.okc && c.okc
  | .strBytes x => x.okc
  | .makeMap => true

def NOp.okc : NOp → Bool
  | .store _ a v => a.okc && v.okc
  | .call f xs => f.okc && xs.all AX.okc
  | .append _ _ s x => s.okc && x.okc
  | .appendZ _ _ z s n => plainCL z && s.okc && n.okc
  | .copy _ d s => d.okc && s.okc
  | .clear _ z x => plainCL z && x.okc
  | .mapUpdate m k v => m.okc && k.okc && v.okc
  | .mapDelete m k => m.okc && k.okc
  | .cvBytes x => x.okc
  | .fail => true

def AOp.okc : AOp → Bool
  | .p o => o.okc
  | .l o => o.okc
  | .k o => o.okc
  | .n o => o.okc

def VCode.okc : VCode → Bool
  | .reg ops => ops.all fun o => o.op.okc
  | .dreg _ ops => ops.all fun d => d.o.op.okc
  | .seq a b => a.okc && b.okc
  | .cond c a b => c.okc && a.okc && b.okc
  | .block _ c => c.okc
  | .loop _ _ _ _ c => c.okc
  | _ => true

end Go.Proofs.Ytachollgbplikaa
