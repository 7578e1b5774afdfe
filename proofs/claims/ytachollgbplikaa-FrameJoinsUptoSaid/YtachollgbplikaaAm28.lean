/- V, fourth part: its heap against the machine's; the operations that read, make and write. -/
import Derived.Test.YtachollgbplikaaAm27
set_option linter.all false
set_option linter.unusedSimpArgs false
namespace Go.Proofs.Ytachollgbplikaa

def Heap.Ok (M : Heap) : Prop := ∀ b, M.next ≤ b → M.get b = none

def own (ι : VI) : Nat → Prop := fun j => ∃ i, ι i = some j ∧ ι.gone i = false

def BL (M : Heap) (O : Nat → Prop) (κ : VI) : Blk → Option Blk → Prop
  | .cells c ro _, x => ∃ c' ro' sl', x = some (.cells c' ro' sl') ∧ (ro = false → ro' = false) ∧ VLL M O κ c c'
  | .map _, _ => False

def Blk.ro : Blk → Bool
  | .cells _ ro _ => ro
  | .map _ => false

structure VS (ι : VI) (H M : Heap) : Prop where
  lt : ∀ i j, ι i = some j → i < H.next ∧ j < M.next
  inj : ∀ i i' j, ι i = some j → ι i' = some j → i = i'
  blk : ∀ i x, H.get i = some x → (ι.sol i = true ∧ ∃ ro, x = .cells [] ro true) ∨ ∃ j, ι i = some j ∧ BL M (own ι) ι x (M.get j) ∧ (x.ro = false → ι.gone i = false)
  solt : ∀ i, ι.sol i = true → i < H.next ∧ ι i = none
  ice : ∀ i, ι.gone i = true → ∃ c sl, H.get i = some (.cells c true sl)
  okH : H.Ok
  okM : M.Ok

/-- What a step leaves: names below 'n' stay. -/
structure Stp (n : Nat) (ι : VI) (M : Heap) (ι' : VI) (M' : Heap) : Prop where
  keep : Keeps M (own ι) M' (own ι')
  agree : ∀ i, i < n → ι' i = ι i ∧ ι'.sol i = ι.sol i
  gone : ∀ i, i < n → ι.gone i = true → ι'.gone i = true

theorem Stp.refl (n : Nat) (ι : VI) (M : Heap) : Stp n ι M ι M := ⟨.refl _ _, fun _ _ => ⟨rfl, rfl⟩, fun _ _ h => h⟩
theorem Stp.trans {n n' : Nat} {ι ι1 ι2 : VI} {M M1 M2 : Heap} (h : Stp n ι M ι1 M1) (k : Stp n' ι1 M1 ι2 M2) (hn : n ≤ n') : Stp n ι M ι2 M2 :=
  ⟨h.keep.trans k.keep, fun i hi => ⟨(k.agree i (by omega)).1.trans (h.agree i hi).1, (k.agree i (by omega)).2.trans (h.agree i hi).2⟩, fun i hi hg => k.gone i (by omega) (h.gone i hi hg)⟩
theorem Stp.weak {n n' : Nat} {ι ι1 : VI} {M M1 : Heap} (h : Stp n ι M ι1 M1) (hn : n' ≤ n) : Stp n' ι M ι1 M1 := ⟨h.keep, fun i hi => h.agree i (by omega), fun i hi => h.gone i (by omega)⟩

theorem Stp.le {ι ι' : VI} {H M M' : Heap} (s : VS ι H M) (k : Stp H.next ι M ι' M') (S : List Nat) : VI.Le ι ι' S := fun i _ =>
  ⟨fun j h => by rw [(k.agree i (s.lt i j h).1).1]; exact h, fun h => by rw [(k.agree i (s.solt i h).1).2]; exact h⟩

theorem VL.step {ι ι' : VI} {H M M' : Heap} (s : VS ι H M) (k : Stp H.next ι M ι' M') {v a : AV} (h : VL M (own ι) ι v a) : VL M' (own ι') ι' v a :=
  VL.mono k.keep ι ι' v a (k.le s _) h
theorem VLL.step {ι ι' : VI} {H M M' : Heap} (s : VS ι H M) (k : Stp H.next ι M ι' M') {v a : List AV} (h : VLL M (own ι) ι v a) : VLL M' (own ι') ι' v a :=
  VLL.mono k.keep ι ι' v a (k.le s _) h
theorem BL.mono {M M' : Heap} {O O' : Nat → Prop} (hk : Keeps M O M' O') {κ κ' : VI} (h : ∀ S, VI.Le κ κ' S) {x : Blk} {y : Option Blk} (r : BL M O κ x y) : BL M' O' κ' x y := by
  cases x with
  | cells c ro sl =>
    obtain ⟨c', ro', sl', rfl, h0, h1⟩ := r
    exact ⟨c', ro', sl', rfl, h0, VLL.mono hk κ κ' c c' (h _) h1⟩
  | map es => exact r.elim

theorem VS.at {ι : VI} {H M : Heap} (s : VS ι H M) {b j : Nat} (hb : ι b = some j) {c : List AV} {ro sl : Bool} (hg : H.get b = some (.cells c ro sl)) :
    ∃ c' ro' sl', M.get j = some (.cells c' ro' sl') ∧ (ro = false → ro' = false ∧ ι.gone b = false) ∧ VLL M (own ι) ι c c' := by
  rcases s.blk b _ hg with ⟨h, _⟩ | ⟨j', h1, ⟨c', ro', sl', h2, h3, h4⟩, h5⟩
  · rw [(s.solt b h).2] at hb
    cases hb
  · rw [hb] at h1
    obtain rfl := Option.some.inj h1
    exact ⟨c', ro', sl', h2, fun h => ⟨h3 h, h5 h⟩, h4⟩

theorem VS.warm {ι : VI} {H M : Heap} (s : VS ι H M) {b : Nat} {c : List AV} {sl : Bool} (hg : H.get b = some (.cells c false sl)) : ι.gone b = false := by
  cases h : ι.gone b with
  | false => rfl
  | true =>
    obtain ⟨c', sl', h'⟩ := s.ice b h
    rw [hg] at h'
    cases h'

/-- Lists hold wherever blocks are. -/
theorem VLL.lift {M : Heap} {O : Nat → Prop} {κ : VI} {l r : List AV} (h : VLL M O VI.none l r) : VLL M O κ l r :=
  VLL.mono (.refl M O) _ κ l r (VI.Le.of_none _ _) h

theorem mem_idsOfL : ∀ {l : List AV} {x : Nat}, x ∈ idsOfL l ↔ ∃ v, v ∈ l ∧ x ∈ idsOf v
  | [], x => by simp [idsOfL]
  | v :: r, x => by
    simp only [idsOfL, List.mem_append, List.mem_cons, mem_idsOfL (l := r)]
    constructor
    · rintro (h | ⟨w, h1, h2⟩)
      · exact ⟨v, .inl rfl, h⟩
      · exact ⟨w, .inr h1, h2⟩
    · rintro ⟨w, rfl | h1, h2⟩
      · exact .inl h2
      · exact .inr ⟨w, h1, h2⟩

/-- What is not said to be tidied gets no new names. -/
def Guar (fr : Fr) (H H' : Heap) : Prop := ∀ i, i < fr.mark → fr.tidy.contains i = false → ∀ x, x ∈ idsOfL (cellsOf H' i) → x ∈ idsOfL (cellsOf H i)

theorem Guar.refl (fr : Fr) (H : Heap) : Guar fr H H := fun _ _ _ _ h => h
theorem Guar.trans {fr : Fr} {A B C : Heap} (h : Guar fr A B) (k : Guar fr B C) : Guar fr A C := fun i h1 h2 x hx => h i h1 h2 x (k i h1 h2 x hx)
theorem Guar.of_get {fr : Fr} {H H' : Heap} (h : ∀ i, i < fr.mark → H'.get i = H.get i ∨ H'.get i = none) : Guar fr H H' := fun i h1 h2 x hx => by
  unfold cellsOf at hx ⊢
  rcases h i h1 with h | h
  · rwa [h] at hx
  · rw [h] at hx
    simp [idsOfL] at hx

structure Res (fr : Fr) (n : Nat) (ι : VI) (H M : Heap) (ι' : VI) (H' M' : Heap) : Prop where
  vs : VS ι' H' M'
  stp : Stp n ι M ι' M'
  guar : Guar fr H H'
  next : n ≤ H'.next

theorem Res.refl {fr : Fr} {ι : VI} {H M : Heap} (s : VS ι H M) : Res fr H.next ι H M ι H M := ⟨s, .refl _ _ _, .refl _ _, Nat.le_refl _⟩
theorem Res.trans {fr : Fr} {n n' : Nat} {ι ι1 ι2 : VI} {H H1 H2 M M1 M2 : Heap} (h : Res fr n ι H M ι1 H1 M1) (k : Res fr n' ι1 H1 M1 ι2 H2 M2) (hn : n ≤ n') : Res fr n ι H M ι2 H2 M2 :=
  ⟨k.vs, h.stp.trans k.stp hn, h.guar.trans k.guar, Nat.le_trans hn k.next⟩
theorem Res.weak {fr : Fr} {n n' : Nat} {ι ι1 : VI} {H H1 M M1 : Heap} (h : Res fr n ι H M ι1 H1 M1) (hn : n' ≤ n) : Res fr n' ι H M ι1 H1 M1 :=
  ⟨h.vs, h.stp.weak hn, h.guar, Nat.le_trans hn h.next⟩

/-! ### One block -/

theorem VS.put {ι : VI} {H M : Heap} (s : VS ι H M) {b j : Nat} (hb : ι b = some j) (hg : ι.gone b = false) {x y : Option Blk} (hx : ∀ x', x = some x' → BL M (own ι) ι x' y) :
    VS ι (H.put b x) (M.put j y) ∧ Stp H.next ι M ι (M.put j y) := by
  have hk : Keeps M (own ι) (M.put j y) (own ι) := ⟨Nat.le_refl _, fun b' _ ho => ⟨by
    have : b' ≠ j := fun e => ho (e ▸ ⟨b, hb, hg⟩)
    simp [Heap.put, this], ho⟩⟩
  refine ⟨⟨s.lt, s.inj, fun i z hz => ?_, s.solt, fun i hi => ?_, fun i hi => ?_, fun i hi => ?_⟩, ⟨hk, fun _ _ => ⟨rfl, rfl⟩, fun _ _ h => h⟩⟩
  · by_cases e : i = b
    · subst e
      simp only [Heap.put, if_true] at hz
      refine .inr ⟨j, hb, ?_, fun _ => hg⟩
      have := hx z hz
      simp only [Heap.put, if_true]
      exact this.mono hk (fun _ => .refl _ _)
    · simp only [Heap.put, if_neg e] at hz
      rcases s.blk i z hz with h | ⟨j', h1, h2, h3⟩
      · exact .inl h
      · have : j' ≠ j := fun e' => e (s.inj i b j (e' ▸ h1) hb)
        refine .inr ⟨j', h1, ?_, h3⟩
        simp only [Heap.put, if_neg this]
        exact h2.mono hk (fun _ => .refl _ _)
  · have : i ≠ b := fun e => by subst e; rw [hg] at hi; cases hi
    simp only [Heap.put, if_neg this]
    exact s.ice i hi
  · have := (s.lt b j hb).1
    have : i ≠ b := fun e => by subst e; simp only [Heap.put] at hi; omega
    simp only [Heap.put, if_neg this]
    exact s.okH i hi
  · have := (s.lt b j hb).2
    have : i ≠ j := fun e => by subst e; simp only [Heap.put] at hi; omega
    simp only [Heap.put, if_neg this]
    exact s.okM i hi

/-- What V forgets. -/
theorem VS.drop {ι : VI} {H M : Heap} (s : VS ι H M) {b : Nat} {c : List AV} {sl : Bool} (hg : H.get b = some (.cells c false sl)) : VS ι (H.put b none) M := by
  have hw := s.warm hg
  refine ⟨s.lt, s.inj, fun i z hz => ?_, s.solt, fun i hi => ?_, fun i hi => ?_, s.okM⟩
  · simp only [Heap.put] at hz
    split at hz
    · cases hz
    · exact s.blk i z hz
  · have : i ≠ b := fun e => by subst e; rw [hw] at hi; cases hi
    simp only [Heap.put, if_neg this]
    exact s.ice i hi
  · simp only [Heap.put]
    split
    · rfl
    · exact s.okH i hi

def VI.put (ι : VI) (i j : Nat) : VI := ⟨fun k => if k = i then some j else ι k, fun k => if k = i then false else ι.sol k, fun k => if k = i then false else ι.gone k⟩
def VI.putSol (ι : VI) (i : Nat) : VI := ⟨fun k => if k = i then Option.none else ι k, fun k => if k = i then true else ι.sol k, fun k => if k = i then false else ι.gone k⟩

theorem VS.push {ι : VI} {H M : Heap} (s : VS ι H M) {x y : Blk} (hx : BL M (own ι) ι x (some y)) :
    VS (ι.put H.next M.next) (H.push x) (M.push y) ∧ Stp H.next ι M (ι.put H.next M.next) (M.push y) := by
  have hle : ∀ i j, ι i = some j → (ι.put H.next M.next) i = some j := fun i j h => by
    have := (s.lt i j h).1
    simp only [VI.put, if_neg (show i ≠ H.next by omega)]
    exact h
  have hls : ∀ S, VI.Le ι (ι.put H.next M.next) S := fun S i _ => ⟨hle i, fun h => by
    have := (s.solt i h).1
    simp only [VI.put, if_neg (show i ≠ H.next by omega)]
    exact h⟩
  have hk : Keeps M (own ι) (M.push y) (own (ι.put H.next M.next)) := ⟨Nat.le_succ _, fun b hb ho => ⟨by simp [Heap.push, Nat.ne_of_lt hb], fun ⟨i, hi, hg⟩ => by
    simp only [VI.put] at hi hg
    split at hi
    · obtain rfl := Option.some.inj hi; omega
    · rename_i hne
      rw [if_neg hne] at hg
      exact ho ⟨i, hi, hg⟩⟩⟩
  refine ⟨⟨fun i j h => ?_, fun i i' j h h' => ?_, fun i z hz => ?_, fun i hi => ?_, fun i hi => ?_, fun i hi => ?_, fun i hi => ?_⟩, ⟨hk, fun i hi => ?_, fun i hi hg => ?_⟩⟩
  · simp only [VI.put] at h
    split at h
    · obtain rfl := Option.some.inj h
      simp only [Heap.push]
      omega
    · have := s.lt i j h
      simp only [Heap.push]
      omega
  · simp only [VI.put] at h h'
    split at h <;> split at h'
    · omega
    · obtain rfl := Option.some.inj h
      have := (s.lt _ _ h').2
      omega
    · obtain rfl := Option.some.inj h'
      have := (s.lt _ _ h).2
      omega
    · exact s.inj _ _ _ h h'
  · simp only [Heap.push] at hz
    split at hz
    · rename_i e
      obtain rfl := Option.some.inj hz
      refine .inr ⟨M.next, by simp [VI.put, e], ?_, fun _ => by simp [VI.put, e]⟩
      simp only [Heap.push, if_true]
      exact hx.mono hk hls
    · rename_i e
      rcases s.blk i z hz with ⟨h1, h2⟩ | ⟨j, h1, h2, h3⟩
      · exact .inl ⟨by simp only [VI.put, if_neg e]; exact h1, h2⟩
      · have := (s.lt i j h1).2
        refine .inr ⟨j, hle i j h1, ?_, fun h => by simp only [VI.put, if_neg e]; exact h3 h⟩
        simp only [Heap.push, if_neg (show j ≠ M.next by omega)]
        exact h2.mono hk hls
  · simp only [VI.put] at hi ⊢
    split at hi
    · cases hi
    · rename_i e
      have := s.solt i hi
      rw [if_neg e]
      exact ⟨by simp only [Heap.push]; omega, this.2⟩
  · simp only [VI.put] at hi
    split at hi
    · cases hi
    · rename_i e
      simp only [Heap.push, if_neg e]
      exact s.ice i hi
  · simp only [Heap.push] at hi ⊢
    rw [if_neg (by omega)]
    exact s.okH i (by omega)
  · simp only [Heap.push] at hi ⊢
    rw [if_neg (by omega)]
    exact s.okM i (by omega)
  · simp only [VI.put, if_neg (show i ≠ H.next by omega), and_self]
  · simp only [VI.put, if_neg (show i ≠ H.next by omega)]
    exact hg

/-- A block of what is empty: nothing at all. -/
theorem VS.pushSol {ι : VI} {H M : Heap} (s : VS ι H M) : VS (ι.putSol H.next) (H.push (.cells [] false true)) M ∧ Stp H.next ι M (ι.putSol H.next) M := by
  have hle : ∀ i j, ι i = some j → (ι.putSol H.next) i = some j := fun i j h => by
    have := (s.lt i j h).1
    simp only [VI.putSol, if_neg (show i ≠ H.next by omega)]
    exact h
  have hls : ∀ S, VI.Le ι (ι.putSol H.next) S := fun S i _ => ⟨hle i, fun h => by
    have := (s.solt i h).1
    simp only [VI.putSol, if_neg (show i ≠ H.next by omega)]
    exact h⟩
  have hk : Keeps M (own ι) M (own (ι.putSol H.next)) := ⟨Nat.le_refl _, fun b hb ho => ⟨rfl, fun ⟨i, hi, hg⟩ => by
    simp only [VI.putSol] at hi hg
    split at hi
    · cases hi
    · rename_i hne
      rw [if_neg hne] at hg
      exact ho ⟨i, hi, hg⟩⟩⟩
  refine ⟨⟨fun i j h => ?_, fun i i' j h h' => ?_, fun i z hz => ?_, fun i hi => ?_, fun i hi => ?_, fun i hi => ?_, s.okM⟩, ⟨hk, fun i hi => ?_, fun i hi hg => ?_⟩⟩
  · simp only [VI.putSol] at h
    split at h
    · cases h
    · have := s.lt i j h
      simp only [Heap.push]
      omega
  · simp only [VI.putSol] at h h'
    split at h <;> split at h' <;> first | (cases h; done) | (cases h'; done) | skip
    exact s.inj _ _ _ h h'
  · simp only [Heap.push] at hz
    split at hz
    · rename_i e
      obtain rfl := Option.some.inj hz
      exact .inl ⟨by simp [VI.putSol, e], false, rfl⟩
    · rename_i e
      rcases s.blk i z hz with ⟨h1, h2⟩ | ⟨j, h1, h2, h3⟩
      · exact .inl ⟨by simp only [VI.putSol, if_neg e]; exact h1, h2⟩
      · exact .inr ⟨j, hle i j h1, h2.mono hk hls, fun h => by simp only [VI.putSol, if_neg e]; exact h3 h⟩
  · simp only [VI.putSol] at hi ⊢
    split at hi
    · rename_i e
      rw [if_pos e]
      exact ⟨by simp only [Heap.push]; omega, rfl⟩
    · rename_i e
      have := s.solt i hi
      rw [if_neg e]
      exact ⟨by simp only [Heap.push]; omega, this.2⟩
  · simp only [VI.putSol] at hi
    split at hi
    · cases hi
    · rename_i e
      simp only [Heap.push, if_neg e]
      exact s.ice i hi
  · simp only [Heap.push] at hi ⊢
    rw [if_neg (by omega)]
    exact s.okH i (by omega)
  · simp only [VI.putSol, if_neg (show i ≠ H.next by omega), and_self]
  · simp only [VI.putSol, if_neg (show i ≠ H.next by omega)]
    exact hg

theorem VS.read {ι : VI} {H M : Heap} (s : VS ι H M) {b j o n : Nat} (hb : ι b = some j) {cs : List AV} (h : H.read b o n = some cs) : ∃ cs', M.read j o n = some cs' ∧ VLL M (own ι) ι cs cs' := by
  unfold Heap.read at h
  split at h
  case h_2 => cases h
  rename_i c ro sl hg
  split at h
  case isFalse => cases h
  rename_i hle
  obtain rfl := Option.some.inj h
  obtain ⟨c', ro', sl', h2, _, h3⟩ := s.at hb hg
  refine ⟨_, ?_, (h3.drop o).take n⟩
  unfold Heap.read
  rw [h2]
  simp only
  rw [if_pos (by rw [← h3.length]; exact hle)]

theorem VS.write {ι : VI} {H M H' : Heap} (s : VS ι H M) {b j o : Nat} (hb : ι b = some j) {cs cs' : List AV} (hcs : VLL M (own ι) ι cs cs') (h : H.write b o cs = some H') :
    ∃ M', M.write j o cs' = some M' ∧ VS ι H' M' ∧ Stp H.next ι M ι M' ∧ H'.next = H.next ∧ ∃ c ro sl, H.get b = some (.cells c ro sl) ∧ H' = H.put b (some (.cells (c.take o ++ cs ++ c.drop (o + cs.length)) ro sl)) := by
  unfold Heap.write at h
  split at h
  case h_2 => cases h
  rename_i c sl hg
  split at h
  case isFalse => cases h
  rename_i hle
  obtain rfl := Option.some.inj h
  obtain ⟨c', ro', sl', h2, h4, h3⟩ := s.at hb hg
  obtain ⟨rfl, hw⟩ := h4 rfl
  obtain ⟨g1, g2⟩ := s.put hb hw (x := some (.cells (c.take o ++ cs ++ c.drop (o + cs.length)) false sl)) (y := some (.cells (c'.take o ++ cs' ++ c'.drop (o + cs'.length)) false sl')) (fun x' hx' => by
    obtain rfl := Option.some.inj hx'
    refine ⟨_, _, _, rfl, fun h => h, ?_⟩
    rw [← hcs.length]
    exact ((h3.take o).append hcs).append (h3.drop _))
  refine ⟨_, ?_, g1, g2, rfl, c, false, sl, hg, rfl⟩
  unfold Heap.write
  rw [h2]
  simp only
  rw [if_pos (by rw [← h3.length, ← hcs.length]; exact hle)]

theorem guar_write {fr : Fr} {H : Heap} {b o : Nat} {cs c : List AV} {ro sl : Bool} (hg : H.get b = some (.cells c ro sl)) (ok : okStore fr b cs = true) {n : Nat} : Guar fr H (H.put b (some (.cells (c.take o ++ cs ++ c.drop n) ro sl))) := by
  intro i h1 h2 x hx
  unfold cellsOf at hx ⊢
  by_cases e : i = b
  · subst e
    simp only [Heap.put, if_true] at hx
    rw [hg]
    simp only
    have hn : idsOfL cs = [] := by
      unfold okStore at ok
      simp only [Bool.or_eq_true, decide_eq_true_eq] at ok
      rcases ok with (ok | ok) | ok
      · omega
      · rw [ok] at h2; cases h2
      · simpa using ok
    rw [mem_idsOfL] at hx ⊢
    obtain ⟨v, hv, hxv⟩ := hx
    rw [List.mem_append, List.mem_append] at hv
    rcases hv with (hv | hv) | hv
    · exact ⟨v, List.mem_of_mem_take hv, hxv⟩
    · have : x ∈ idsOfL cs := mem_idsOfL.2 ⟨v, hv, hxv⟩
      rw [hn] at this
      cases this
    · exact ⟨v, List.mem_of_mem_drop hv, hxv⟩
  · simp only [Heap.put, if_neg e] at hx
    exact hx

theorem VS.writeRes {fr : Fr} {ι : VI} {H M H' : Heap} (s : VS ι H M) {b j o : Nat} (hb : ι b = some j) {cs cs' : List AV} (hcs : VLL M (own ι) ι cs cs') (ok : okStore fr b cs = true) (h : H.write b o cs = some H') :
    ∃ M', M.write j o cs' = some M' ∧ Res fr H.next ι H M ι H' M' := by
  obtain ⟨M', h1, h2, h3, h4, c, ro, sl, h5, rfl⟩ := s.write hb hcs h
  exact ⟨M', h1, h2, h3, guar_write h5 ok, Nat.le_of_eq h4.symm⟩

theorem VS.pushRes {fr : Fr} {ι : VI} {H M : Heap} (s : VS ι H M) (hm : fr.mark ≤ H.next) {x y : Blk} (hx : BL M (own ι) ι x (some y)) : Res fr H.next ι H M (ι.put H.next M.next) (H.push x) (M.push y) := by
  obtain ⟨h1, h2⟩ := s.push hx
  exact ⟨h1, h2, Guar.of_get fun i hi => .inl (by simp [Heap.push, show i ≠ H.next by omega]), Nat.le_succ _⟩

theorem VI.put_self (ι : VI) (i j : Nat) : (ι.put i j) i = some j := by simp [VI.put]

theorem VS.solRes {fr : Fr} {ι : VI} {H M : Heap} (s : VS ι H M) (hm : fr.mark ≤ H.next) : Res fr H.next ι H M (ι.putSol H.next) (H.push (.cells [] false true)) M := by
  obtain ⟨h1, h2⟩ := s.pushSol
  exact ⟨h1, h2, Guar.of_get fun i hi => .inl (by simp [Heap.push, show i ≠ H.next by omega]), Nat.le_succ _⟩

/-! ### Reading -/

theorem toBytes_rel {M : Heap} {O : Nat → Prop} {κ : VI} : ∀ {l l' : List AV} {s : List UInt8}, VLL M O κ l l' → toBytes l = some s → toBytes l' = some s
  | [], l', s, h, e => by
    cases l' with
    | nil => exact e
    | cons _ _ => simp [VLL] at h
  | v :: l, l', s, h, e => by
    cases l' with
    | nil => simp [VLL] at h
    | cons v' l' =>
      simp only [VLL] at h
      cases v <;> (try simp only [toBytes] at e) <;> first | (cases e; done) | skip
      rename_i k n
      cases k <;> (try simp only [toBytes] at e) <;> first | (cases e; done) | skip
      rw [h.1.eq rfl]
      simp only [toBytes]
      obtain ⟨t, h1, rfl⟩ := Option.map_eq_some_iff.1 e
      rw [toBytes_rel h.2 h1]
      rfl

theorem aLoad_rel {ι : VI} {H M : Heap} (s : VS ι H M) {g : Bool} {n : Nat} {x x' v : AV} (hx : VL M (own ι) ι x x') (h : aLoad g n x H = some v) : ∃ a, aLoad g n x' M = some a ∧ VL M (own ι) ι v a := by
  cases x with
  | ptr p =>
    cases p with
    | none => simp [aLoad] at h
    | some q =>
      simp only [VL] at hx
      obtain ⟨j, h1, rfl⟩ := hx
      simp only [aLoad] at h ⊢
      cases g with
      | true =>
        simp only [if_true] at h ⊢
        obtain ⟨cs, h2, rfl⟩ := Option.map_eq_some_iff.1 h
        obtain ⟨cs', h3, h4⟩ := s.read h1 h2
        rw [h3]
        exact ⟨_, rfl, by simp only [VL]; exact ⟨cs', rfl, h4⟩⟩
      | false =>
        simp only [Bool.false_eq_true, if_false] at h ⊢
        split at h
        case h_2 => cases h
        rename_i c ro sl hg
        obtain ⟨c', ro', sl', h3, _, h4⟩ := s.at h1 hg
        rw [h3]
        exact h4.get _ _ h
  | _ => simp [aLoad] at h

theorem aBytesStr_rel {ι : VI} {H M : Heap} (s : VS ι H M) {x x' v : AV} (hx : VL M (own ι) ι x x') (h : aBytesStr x H = some v) : aBytesStr x' M = some v ∧ v.scal = true := by
  cases x with
  | slice p sz len cap ex =>
    cases p with
    | none =>
      simp only [VL] at hx
      subst hx
      simp only [aBytesStr, Option.some.injEq] at h ⊢
      subst h
      exact ⟨rfl, rfl⟩
    | some q =>
      simp only [VL] at hx
      obtain ⟨j, h1, rfl⟩ := hx
      unfold aBytesStr at h
      split at h
      · rename_i e
        cases e
      · rename_i e
        cases e
        simp only [aBytesStr]
        split at h
        · rename_i hl
          rw [if_pos hl]
          obtain rfl := Option.some.inj h
          exact ⟨rfl, rfl⟩
        · rename_i hl
          rw [if_neg hl]
          obtain ⟨t, h2, rfl⟩ := Option.map_eq_some_iff.1 h
          obtain ⟨cs, h3, h4⟩ := Option.bind_eq_some_iff.1 h2
          obtain ⟨cs', h5, h6⟩ := s.read h1 h3
          rw [h5, Option.bind_some, toBytes_rel h6 h4]
          exact ⟨rfl, rfl⟩
      · cases h
  | _ => simp [aBytesStr] at h

theorem read_zero {H : Heap} {b o : Nat} {cs : List AV} (h : H.read b o 0 = some cs) : cs = [] := by
  unfold Heap.read at h
  split at h
  · split at h
    · simpa using h.symm
    · cases h
  · cases h

section
variable {ι : VI} {H M : Heap} (s : VS ι H M) {ρ σ : Nat → AV} (h : ∀ t, VL M (own ι) ι (ρ t) (σ t))
include s h

theorem vL_ok {o : LOp} (hc : o.okc = true) {v : AV} (hv : vL (o.sub ρ) H = some v) : ∃ a, aL (o.sub σ) [] M = some a ∧ VL M (own ι) ι v a := by
  cases o with
  | load g n x =>
    have hx := ev_rel h hc
    simp only [LOp.sub, vL, aL] at hv ⊢
    generalize (x.sub ρ).ev [] = X at *
    generalize (x.sub σ).ev [] = X' at *
    split at hv
    · rename_i cs
      simp only [VL] at hx
      obtain ⟨b, o, c, ro, sl, rfl, g1, g2, g3, g4⟩ := hx
      have hlen := g4.length
      rw [List.length_take, List.length_drop] at hlen
      cases g with
      | true =>
        simp only [if_true] at hv
        split at hv
        case isFalse => cases hv
        rename_i hn
        obtain rfl := Option.some.inj hv
        refine ⟨.agg ((c.drop o).take n), ?_, ?_⟩
        · simp only [aLoad, if_true, Heap.read, g1]
          rw [if_pos (by omega)]
          rfl
        · simp only [VL]
          refine ⟨_, rfl, ?_⟩
          have := (g4.take n).lift (κ := ι)
          rwa [List.take_take, Nat.min_eq_left hn.1] at this
      | false =>
        simp only [Bool.false_eq_true, if_false] at hv
        obtain ⟨a, h1, h2⟩ := g4.get 0 v hv
        refine ⟨a, ?_, VL.mono (.refl _ _) _ _ _ _ (VI.Le.of_none _ _) h2⟩
        simp only [aLoad, Bool.false_eq_true, if_false, g1]
        rw [List.getElem?_take] at h1
        split at h1
        · simpa using h1
        · cases h1
    · exact aLoad_rel s hx hv
  | bytesStr x =>
    have hx := ev_rel h hc
    simp only [LOp.sub, vL, aL] at hv ⊢
    generalize (x.sub ρ).ev [] = X at *
    generalize (x.sub σ).ev [] = X' at *
    split at hv
    · rename_i sz len cs ex
      split at hv
      case isFalse => cases hv
      rename_i e
      subst e
      simp only [VL] at hx
      rcases hx with ⟨rfl, rfl, s', rfl⟩ | ⟨b, o, cap, ex', rfl, g1, g2, g3, g4⟩
      · simp only [toBytes, Option.map_some, Option.some.injEq] at hv
        subst hv
        exact ⟨_, rfl, VL.scal rfl⟩
      simp only [aBytesStr]
      by_cases hl : len = 0
      · rw [if_pos hl]
        subst hl
        rw [Nat.zero_mul] at g3
        obtain rfl := List.eq_nil_of_length_eq_zero g3
        simp only [toBytes, Option.map_some, Option.some.injEq] at hv
        subst hv
        exact ⟨_, rfl, VL.scal rfl⟩
      · rw [if_neg hl]
        obtain ⟨t, h2, rfl⟩ := Option.map_eq_some_iff.1 hv
        obtain ⟨c, ro, sl, q1, q2, q3, q4, q5⟩ := g4 hl
        rw [Nat.mul_one] at q4 q5
        refine ⟨.str t, ?_, VL.scal rfl⟩
        simp only [Heap.read, q1]
        rw [if_pos q4, Option.bind_some, toBytes_rel q5 h2]
        rfl
    · rename_i b off sz n w
      split at hv
      case isFalse => cases hv
      rename_i e
      subst e
      simp only [VL] at hx
      obtain ⟨p, s', cap, ex, rfl, g1, g2⟩ := hx
      obtain ⟨t, h2, rfl⟩ := Option.map_eq_some_iff.1 hv
      obtain ⟨cs, h3, h4⟩ := Option.bind_eq_some_iff.1 h2
      by_cases hl : n = 0
      · subst hl
        obtain rfl := read_zero h3
        simp only [toBytes, Option.some.injEq] at h4
        subst h4
        cases p with
        | none => exact ⟨_, rfl, VL.scal rfl⟩
        | some p =>
          obtain rfl := g1.2.2 (by simp)
          exact ⟨_, by simp [aBytesStr], VL.scal rfl⟩
      · obtain ⟨j, q1, q2, _⟩ := g2.resolve_right (fun h => hl h.2.1)
        have hps := q2 hl
        subst hps
        obtain rfl := g1.2.2 (by simp)
        obtain ⟨cs', h5, h6⟩ := s.read q1 h3
        refine ⟨.str t, ?_, VL.scal rfl⟩
        simp only [aBytesStr, if_neg hl]
        rw [h5, Option.bind_some, toBytes_rel h6 h4]
        rfl
    · obtain ⟨h1, h2⟩ := aBytesStr_rel s hx hv
      exact ⟨_, h1, VL.scal h2⟩
  | mapLen x => simp [LOp.sub, vL] at hv
  | lookup ok z x k => simp [LOp.sub, vL] at hv

theorem aFill2_rel {sz : Nat} : ∀ {ps : List (Nat × AX)} {cs cs' l : List AV}, (ps.all fun p => p.2.okc) = true → VLL M (own ι) ι cs cs' →
    aFill cs (ps.map fun p => (p.1 * sz, sz, (p.2.sub ρ).ev [])) = some l → ∃ l', aFill cs' (ps.map fun p => (p.1 * sz, sz, (p.2.sub σ).ev [])) = some l' ∧ VLL M (own ι) ι l l' := by
  intro ps cs cs' l hc hr hf
  have e : ∀ τ : Nat → AV, (ps.map fun p => (p.1 * sz, sz, (p.2.sub τ).ev [])) = ((ps.map fun p => ((p.1 * sz, sz, p.2) : Nat × Nat × AX)).map fun p => (p.1, p.2.1, (p.2.2.sub τ).ev [])) := by
    intro τ
    rw [List.map_map]
    rfl
  rw [e] at hf ⊢
  refine aFill_rel h ?_ hr hf
  rw [List.all_map]
  exact hc

theorem vK_ok {o : KOp} (hc : o.okc = true) {x : Blk} {mk : Mk} (hv : vK (o.sub ρ) = some (x, mk)) : ∃ y, aK (o.sub σ) [] = some (y, mk) ∧ BL M (own ι) ι x (some y) ∧ mk ≠ .map := by
  cases o with
  | alloc z =>
    simp only [KOp.sub, vK, aK, Option.some.injEq, Prod.mk.injEq] at hv ⊢
    obtain ⟨rfl, rfl⟩ := hv
    exact ⟨_, ⟨rfl, rfl⟩, ⟨_, _, _, rfl, fun h => h, VLL.const z hc⟩, by simp⟩
  | box x =>
    have hx := ev_rel h hc
    simp only [KOp.sub, vK, aK] at hv ⊢
    obtain ⟨cs, h1, h2⟩ := Option.map_eq_some_iff.1 hv
    simp only [Prod.mk.injEq] at h2
    obtain ⟨rfl, rfl⟩ := h2
    obtain ⟨cs', h3, h4⟩ := hx.cells h1
    rw [h3]
    exact ⟨_, rfl, ⟨_, _, _, rfl, fun h => h, h4⟩, by simp⟩
  | buildSlice sz len z ps =>
    simp only [KOp.okc, Bool.and_eq_true] at hc
    simp only [KOp.sub, vK, aK, List.map_map] at hv ⊢
    obtain ⟨cs, h1, h2⟩ := Option.map_eq_some_iff.1 hv
    simp only [Prod.mk.injEq] at h2
    obtain ⟨rfl, rfl⟩ := h2
    obtain ⟨cs', h3, h4⟩ := aFill2_rel s h (sz := sz) hc.2 (VLL.reps hc.1 len) h1
    refine ⟨.cells cs' false false, ?_, ⟨_, _, _, rfl, fun h => h, h4⟩, by simp⟩
    rw [Option.map_eq_some_iff]
    exact ⟨cs', h3, rfl⟩
  | makeSlice sz bytes z l c =>
    simp only [KOp.okc, Bool.and_eq_true] at hc
    have h1 := ev_rel h hc.1.2
    have h2 := ev_rel h hc.2
    simp only [KOp.sub, vK, aK] at hv ⊢
    generalize (l.sub ρ).ev [] = X at *
    generalize (c.sub ρ).ev [] = Y at *
    cases X <;> simp only [aMakeSlice] at hv <;> first | (cases hv; done) | skip
    cases Y <;> (try simp only at hv) <;> first | (cases hv; done) | skip
    rw [h1.eq rfl, h2.eq rfl]
    simp only [aMakeSlice]
    split at hv
    case isFalse => cases hv
    rename_i hcond
    rw [if_pos hcond]
    simp only [Option.some.injEq, Prod.mk.injEq] at hv
    obtain ⟨rfl, rfl⟩ := hv
    exact ⟨_, rfl, ⟨_, _, _, rfl, fun h => h, VLL.reps hc.1.1 _⟩, by simp⟩
  | strBytes x =>
    have hx := ev_rel h hc
    simp only [KOp.sub, vK, aK] at hv ⊢
    generalize (x.sub ρ).ev [] = X at *
    cases X <;> (try simp only at hv) <;> first | (cases hv; done) | skip
    rw [hx.eq rfl]
    simp only
    split at hv
    case isFalse => cases hv
    rename_i hcond
    rw [if_pos hcond]
    simp only [Option.some.injEq, Prod.mk.injEq] at hv
    obtain ⟨rfl, rfl⟩ := hv
    refine ⟨_, rfl, ⟨_, _, _, rfl, fun h => h, VLL.const _ ?_⟩, by simp⟩
    rename_i t
    clear hcond hx
    induction t with
    | nil => rfl
    | cons _ _ ih => simpa [plainCL, plainC] using ih
  | makeMap => simp [KOp.sub, vK] at hv
end

/-! ### Writing -/

theorem vElems_rel {ι : VI} {H M : Heap} (s : VS ι H M) {x x' : AV} (hx : VL M (own ι) ι x x') {n : Nat} {cs : List AV} (h : vElems x H = some (n, cs)) : ∃ cs', aElems x' M = some (n, cs') ∧ VLL M (own ι) ι cs cs' := by
  cases x with
  | slice p sz len cap ex =>
    cases p with
    | none =>
      simp only [VL] at hx
      subst hx
      simp only [vElems, aElems, Option.some.injEq, Prod.mk.injEq] at h ⊢
      obtain ⟨rfl, rfl⟩ := h
      exact ⟨[], ⟨rfl, rfl⟩, by simp [VLL]⟩
    | some q =>
      simp only [VL] at hx
      obtain ⟨j, h1, rfl⟩ := hx
      simp only [vElems, aElems] at h ⊢
      split at h
      · rename_i hl
        rw [if_pos hl]
        simp only [Option.some.injEq, Prod.mk.injEq] at h
        obtain ⟨rfl, rfl⟩ := h
        exact ⟨[], rfl, by simp [VLL]⟩
      · rename_i hl
        rw [if_neg hl]
        obtain ⟨cs0, h2, h3⟩ := Option.map_eq_some_iff.1 h
        simp only [Prod.mk.injEq] at h3
        obtain ⟨rfl, rfl⟩ := h3
        obtain ⟨cs', h5, h6⟩ := s.read h1 h2
        rw [h5]
        exact ⟨cs', rfl, h6⟩
  | list sz len cs0 ex =>
    simp only [VL] at hx
    simp only [vElems, Option.some.injEq, Prod.mk.injEq] at h
    obtain ⟨rfl, rfl⟩ := h
    rcases hx with ⟨rfl, rfl, s', rfl⟩ | ⟨b, o, cap, ex', rfl, g1, g2, g3, g4⟩
    · exact ⟨[], rfl, by simp [VLL]⟩
    simp only [aElems]
    by_cases hl : len = 0
    · rw [if_pos hl]
      subst hl
      rw [Nat.zero_mul] at g3
      obtain rfl := List.eq_nil_of_length_eq_zero g3
      exact ⟨[], rfl, by simp [VLL]⟩
    · rw [if_neg hl]
      obtain ⟨c, ro, sl, q1, q2, q3, q4, q5⟩ := g4 hl
      refine ⟨(c.drop o).take (len * sz), ?_, q5.lift⟩
      simp only [Heap.read, q1]
      rw [if_pos q4]
      rfl
  | acc b off sz n' w =>
    simp only [VL] at hx
    obtain ⟨p, s', cap, ex, rfl, g1, g2⟩ := hx
    simp only [vElems] at h
    obtain ⟨cs0, h2, h3⟩ := Option.map_eq_some_iff.1 h
    simp only [Prod.mk.injEq] at h3
    obtain ⟨rfl, rfl⟩ := h3
    by_cases hl : n' = 0
    · subst hl
      rw [Nat.zero_mul] at h2
      obtain rfl := read_zero h2
      exact ⟨[], by cases p <;> simp [aElems], by simp [VLL]⟩
    · obtain ⟨j, q1, q2, _⟩ := g2.resolve_right (fun h => hl h.2.1)
      have hps := q2 hl
      subst hps
      obtain rfl := g1.2.2 (by simp)
      obtain ⟨cs', h5, h6⟩ := s.read q1 h2
      simp only [aElems, if_neg hl]
      rw [h5]
      exact ⟨cs', rfl, h6⟩
  | str t =>
    rw [hx.eq rfl]
    simp only [vElems, aElems, Option.some.injEq, Prod.mk.injEq] at h ⊢
    obtain ⟨rfl, rfl⟩ := h
    refine ⟨_, ⟨rfl, rfl⟩, VLL.const _ ?_⟩
    clear hx
    induction t with
    | nil => rfl
    | cons _ _ ih => simpa [plainCL, plainC] using ih
  | _ => simp [vElems, aElems] at h

theorem vElemSize_rel {M : Heap} {O : Nat → Prop} {κ : VI} {x x' : AV} (hx : VL M O κ x x') {sz : Nat} (h : vElemSize x sz = true) : aElemSize x' sz = true := by
  cases x with
  | slice p sz' len cap ex =>
    cases p with
    | none => simp only [VL] at hx; subst hx; exact h
    | some q => simp only [VL] at hx; obtain ⟨j, h1, rfl⟩ := hx; exact h
  | list sz' len cs ex =>
    simp only [VL] at hx
    rcases hx with ⟨rfl, rfl, s', rfl⟩ | ⟨b, o, cap, ex', rfl, _⟩
    · rfl
    · exact h
  | acc b off sz' n w =>
    simp only [VL] at hx
    obtain ⟨p, s', cap, ex, rfl, g1, g2⟩ := hx
    cases p with
    | none =>
      have : n = 0 := by
        rcases g2 with ⟨j, q1, q2, _⟩ | ⟨_, h, _⟩
        · by_cases hn : n = 0
          · exact hn
          · have := q2 hn
            cases this
        · exact h
      simp [aElemSize, this]
    | some p =>
      obtain rfl := g1.2.2 (by simp)
      exact h
  | str t => rw [hx.eq rfl]; exact h
  | _ => simp [vElemSize, aElemSize] at h

/-- What an operation is to keep. -/
def NRel (fr : Fr) (ι : VI) (H M : Heap) (r : AV × Heap) (r' : Option (AV × Heap)) : Prop :=
  ∃ a M' ι', r' = some (a, M') ∧ Res fr H.next ι H M ι' r.2 M' ∧ VL M' (own ι') ι' r.1 a

theorem NRel.quiet {fr : Fr} {ι : VI} {H M : Heap} (s : VS ι H M) {v a : AV} (h : VL M (own ι) ι v a) : NRel fr ι H M (v, H) (some (a, M)) :=
  ⟨a, M, ι, rfl, .refl s, h⟩

theorem VS.new_acc {fr : Fr} {ι : VI} {H M : Heap} (s : VS ι H M) (hm : fr.mark ≤ H.next) {cs cs' : List AV} (h : VLL M (own ι) ι cs cs') (sz n : Nat) (ex sl : Bool) :
    NRel fr ι H M (.acc H.next 0 sz n true, H.push (.cells cs false true)) (some (.slice (some (M.next, 0)) sz n n ex, M.push (.cells cs' false sl))) :=
  ⟨_, _, _, rfl, s.pushRes hm ⟨_, _, _, rfl, fun h => h, h⟩, by
    simp only [VL]
    exact ⟨_, _, _, _, rfl, ⟨Nat.le_refl _, (fun h => by cases h), fun _ => rfl⟩, .inl ⟨M.next, VI.put_self _ _ _, fun _ => rfl, fun _ => ⟨trivial, rfl, .inl rfl⟩⟩⟩⟩

theorem VS.new_sol {fr : Fr} {ι : VI} {H M : Heap} (s : VS ι H M) (hm : fr.mark ≤ H.next) (sz s' : Nat) (p : Option (Nat × Nat)) (hp : p ≠ none → s' = sz) :
    NRel fr ι H M (.acc H.next 0 sz 0 true, H.push (.cells [] false true)) (some (.slice p s' 0 0 true, M)) :=
  ⟨_, M, _, rfl, s.solRes hm, by
    simp only [VL]
    exact ⟨_, _, _, _, rfl, ⟨Nat.le_refl _, (fun _ => ⟨rfl, rfl⟩), hp⟩, .inr ⟨by simp [VI.putSol], trivial, fun _ => ⟨trivial, rfl, rfl⟩⟩⟩⟩

theorem NRel.after {fr : Fr} {ι ι1 : VI} {H M H1 M1 : Heap} (h : Res fr H.next ι H M ι1 H1 M1) {r : AV × Heap} {r' : Option (AV × Heap)} (k : NRel fr ι1 H1 M1 r r') : NRel fr ι H M r r' := by
  obtain ⟨a, M', ι', e1, e2, e3⟩ := k
  exact ⟨a, M', ι', e1, h.trans e2 h.next, e3⟩

theorem sol1_ok {fr : Fr} {ι : VI} {H M : Heap} (s : VS ι H M) (hm : fr.mark ≤ H.next) {v a : AV} {z : Nat} (hv : VL M (own ι) ι v a) : NRel fr ι H M (sol1 z v H) (some (a, M)) := by
  unfold sol1
  split
  · simp only [VL] at hv
    subst hv
    exact s.new_sol hm _ _ _ (by simp)
  · rename_i q sz len cap ex
    have hv0 := hv
    simp only [VL] at hv
    obtain ⟨j, h1, rfl⟩ := hv
    split
    · rename_i hc
      obtain ⟨h2, rfl⟩ := hc
      split
      · split
        · refine NRel.quiet s ?_
          simp only [VL]
          exact ⟨_, _, _, _, rfl, ⟨Nat.le_refl _, (fun h => by cases h), fun _ => rfl⟩, .inl ⟨j, h1, fun _ => by rw [h2], fun _ => ⟨trivial, rfl, .inl (by rw [h2])⟩⟩⟩
        · exact NRel.quiet s hv0
      · exact NRel.quiet s hv0
    · exact NRel.quiet s hv0
  · exact NRel.quiet s hv

theorem fitsB_iff {bytes k : Nat} (h : fitsB bytes k = true) : k * bytes ≤ 70368744177664 ∧ k ≤ 70368744177664 := by simpa [fitsB] using h

/-- All of one's own block grows: it is given up for a new one. -/
theorem grow_ok {fr : Fr} {ι : VI} {H M : Heap} (s : VS ι H M) (hm : fr.mark ≤ H.next) {sz bytes n len b j : Nat} {ex sl : Bool} (hb : ι b = some j) {cs new new' : List AV} (hnew : VLL M (own ι) ι new new')
    (hg : H.get b = some (.cells cs false sl)) (hl : cs.length = len * sz) (hn : n ≠ 0) (hf : fitsB bytes (len + n) = true) :
    NRel fr ι H M (.acc H.next 0 sz (len + n) true, (H.put b none).push (.cells (cs ++ new) false true)) (aAppend sz bytes (.slice (some (j, 0)) sz len len ex) n new' M) := by
  obtain ⟨c', ro', sl', g1, g2, g3⟩ := s.at hb hg
  obtain ⟨rfl, hw⟩ := g2 rfl
  have hl' : c'.length = len * sz := by rw [← g3.length]; exact hl
  obtain ⟨old, e1, e2⟩ : ∃ old, (if (ex = true ∧ len = 0) then some [] else M.read j 0 (len * sz)) = some old ∧ VLL M (own ι) ι cs old := by
    by_cases hc : ex = true ∧ len = 0
    · rw [if_pos hc]
      rw [hc.2, Nat.zero_mul] at hl
      obtain rfl := List.eq_nil_of_length_eq_zero hl
      exact ⟨[], rfl, by simp [VLL]⟩
    · rw [if_neg hc]
      refine ⟨c', ?_, g3⟩
      simp only [Heap.read, g1]
      rw [if_pos (by omega), List.drop_zero, List.take_of_length_le (by omega)]
  unfold aAppend
  simp only
  rw [if_neg (by simp), if_neg (by omega), if_pos (fitsB_iff hf), e1, Option.bind_some]
  have hd := s.drop hg
  have rd : Res fr H.next ι H M ι (H.put b none) M := ⟨hd, .refl _ _ _, Guar.of_get fun i _ => by
    simp only [Heap.put]
    split
    · exact .inr rfl
    · exact .inl rfl, Nat.le_refl _⟩
  cases ex with
  | true =>
    rw [if_pos rfl]
    exact NRel.after rd (hd.new_acc (fr := fr) hm (e2.append hnew) sz (len + n) false true)
  | false =>
    rw [if_neg (by simp), g1]
    simp only
    obtain ⟨p1, p2⟩ := s.put hb hw (x := none) (y := none) (fun _ h => by cases h)
    have p3 : Res fr H.next ι H M ι (H.put b none) (M.put j none) := ⟨p1, p2, rd.guar, Nat.le_refl _⟩
    exact NRel.after p3 (p1.new_acc (fr := fr) hm (VLL.step s p2 (e2.append hnew)) sz (len + n) false true)

theorem vElems_zero {ι : VI} {H M : Heap} (s : VS ι H M) {x x' : AV} (hx : VL M (own ι) ι x x') {cs : List AV} (h : vElems x H = some (0, cs)) : cs = [] := by
  obtain ⟨cs', h1, h2⟩ := vElems_rel s hx h
  have h3 : cs'.length = 0 := by
    cases x' with
    | slice p sz len cap ex =>
      cases p with
      | none =>
        simp only [aElems, Option.some.injEq, Prod.mk.injEq] at h1
        simp [← h1.2]
      | some q =>
        simp only [aElems] at h1
        split at h1
        · simp only [Option.some.injEq, Prod.mk.injEq] at h1
          simp [← h1.2]
        · rename_i hl
          obtain ⟨_, _, e⟩ := Option.map_eq_some_iff.1 h1
          simp only [Prod.mk.injEq] at e
          exact absurd e.1 hl
    | str t =>
      simp only [aElems, Option.some.injEq, Prod.mk.injEq] at h1
      rw [← h1.2, List.length_map]
      exact h1.1
    | _ => simp [aElems] at h1
  rw [← h2.length] at h3
  exact List.eq_nil_of_length_eq_zero h3

theorem vAppend_ok {fr : Fr} {ι : VI} {H M : Heap} (s : VS ι H M) (hm : fr.mark ≤ H.next) {sz bytes n : Nat} {x x' : AV} (hx : VL M (own ι) ι x x') {new new' : List AV} (hnew : VLL M (own ι) ι new new') (hz : n = 0 → new = []) {r : AV × Heap}
    (h : vAppend fr sz bytes x n new H = some r) : NRel fr ι H M r (aAppend sz bytes x' n new' M) := by
  unfold vAppend at h
  split at h
  · rename_i sz' len cs ex
    have hx0 := hx
    simp only [VL] at hx
    split at h
    case isFalse => cases h
    rename_i e
    subst e
    rcases hx with ⟨rfl, rfl, s', rfl⟩ | ⟨b, o, cap, ex', rfl, g1, g2, g3, g4⟩
    · split at h
      · rename_i hn
        subst hn
        obtain rfl := Option.some.inj h
        refine ⟨.slice none sz' 0 0 true, M, ι, ?_, .refl s, by simp [VL]⟩
        simp [aAppend]
      · rename_i hn
        split at h
        case isFalse => cases h
        rename_i hcond
        obtain rfl := Option.some.inj h
        have e : aAppend sz' bytes (.slice none s' 0 0 true) n new' M = some (.slice (some (M.next, 0)) sz' (0 + n) (0 + n) false, M.push (.cells ([] ++ new') false true)) := by
          unfold aAppend
          simp only
          rw [if_neg (by simp), if_neg (by omega), if_pos (fitsB_iff hcond.2)]
          rfl
        rw [e]
        exact s.new_acc (fr := fr) hm hnew sz' (0 + n) false true
    split at h
    · rename_i hn
      subst hn
      obtain rfl := Option.some.inj h
      refine ⟨_, M, ι, ?_, .refl s, hx0⟩
      simp [aAppend, g1]
    · rename_i hn
      split at h
      case isFalse => cases h
      rename_i hcond
      obtain rfl := Option.some.inj h
      obtain ⟨rfl, rfl⟩ := g2 hcond.1
      obtain ⟨old, e1, e2⟩ : ∃ old, (if (true = true ∧ cap = 0) then some [] else M.read b o (cap * sz')) = some old ∧ VLL M (own ι) ι cs old := by
        by_cases hl : cap = 0
        · rw [if_pos ⟨rfl, hl⟩]
          subst hl
          rw [Nat.zero_mul] at g3
          obtain rfl := List.eq_nil_of_length_eq_zero g3
          exact ⟨[], rfl, by simp [VLL]⟩
        · rw [if_neg (fun h => hl h.2)]
          obtain ⟨c, ro, sl, q1, q2, q3, q4, q5⟩ := g4 hl
          refine ⟨(c.drop o).take (cap * sz'), ?_, q5.lift⟩
          simp only [Heap.read, q1]
          rw [if_pos q4]
      have e : aAppend sz' bytes (.slice (some (b, o)) sz' cap cap true) n new' M = some (.slice (some (M.next, 0)) sz' (cap + n) (cap + n) false, M.push (.cells (old ++ new') false true)) := by
        unfold aAppend
        simp only
        rw [if_neg (by simp), if_neg (by omega), if_pos (fitsB_iff hcond.2)]
        simp only [true_and] at e1 ⊢
        rw [e1]
        rfl
      rw [e]
      exact s.new_acc (fr := fr) hm (e2.append hnew) sz' (cap + n) false true
  · rename_i b o sz' len w
    have hx0 := hx
    simp only [VL] at hx
    obtain ⟨p, s', cap, ex, rfl, g1, g2⟩ := hx
    split at h
    case isFalse => cases h
    rename_i e
    subst e
    split at h
    · rename_i hn
      subst hn
      obtain rfl := Option.some.inj h
      refine ⟨.slice p sz' len cap ex, M, ι, ?_, .refl s, ?_⟩
      · cases p with
        | none => have := g1.2.1 rfl; simp [aAppend, g1.1]
        | some p =>
          obtain rfl := g1.2.2 (by simp)
          simp [aAppend, g1.1]
      · simp only [VL]
        exact ⟨_, _, _, _, rfl, ⟨g1.1, g1.2.1, fun _ => rfl⟩, g2⟩
    rename_i hn
    split at h
    case isFalse => cases h
    rename_i hcond
    split at h
    case h_2 => cases h
    rename_i cs sl hg
    split at h
    case isFalse => cases h
    rename_i hl
    obtain rfl := Option.some.inj h
    have hd := s.drop hg
    have rd : Res fr H.next ι H M ι (H.put b none) M := ⟨hd, .refl _ _ _, Guar.of_get fun i _ => by
      simp only [Heap.put]
      split
      · exact .inr rfl
      · exact .inl rfl, Nat.le_refl _⟩
    have none' : len = 0 → cap = 0 → ex = true → NRel fr ι H M (.acc H.next 0 sz' (len + n) true, (H.put b none).push (.cells (cs ++ new) false true)) (aAppend sz' bytes (.slice p s' len cap ex) n new' M) := by
      rintro rfl rfl rfl
      rw [Nat.zero_mul] at hl
      obtain rfl := List.eq_nil_of_length_eq_zero hl
      have e : aAppend sz' bytes (.slice p s' 0 0 true) n new' M = some (.slice (some (M.next, 0)) sz' (0 + n) (0 + n) false, M.push (.cells ([] ++ new') false true)) := by
        unfold aAppend
        simp only
        rw [if_neg (fun hc => hc.2 (g1.2.2 hc.1)), if_neg (by omega), if_pos (fitsB_iff hcond.2)]
        cases p with
        | none => rfl
        | some p => rfl
      rw [e]
      exact NRel.after rd (hd.new_acc (fr := fr) hm hnew sz' (0 + n) false true)
    rcases g2 with ⟨j, q1, q2, q3⟩ | ⟨q1, q2, q3⟩
    · obtain ⟨k1, k2, k3⟩ := q3 hcond.1
      rcases k3 with rfl | ⟨k3, k4⟩
      · obtain rfl := g1.2.2 (by simp)
        subst k2
        exact grow_ok s hm q1 hnew hg hl hn hcond.2
      · exact none' k3 (by omega) k4
    · obtain ⟨k1, k2, k3⟩ := q3 hcond.1
      exact none' q2 k2 k3
  · simp only [VL] at hx
    subst hx
    split at h
    case isFalse => cases h
    rename_i hf
    obtain rfl := Option.some.inj h
    by_cases hn : n = 0
    · subst hn
      obtain rfl := hz rfl
      have e : ∀ z, aAppend sz bytes (.slice none z 0 0 true) 0 new' M = some (.slice none sz 0 0 true, M) := by simp [aAppend]
      rw [e]
      exact s.new_sol hm _ _ _ (fun _ => rfl)
    · have e : ∀ z, aAppend sz bytes (.slice none z 0 0 true) n new' M = some (.slice (some (M.next, 0)) sz n n false, M.push (.cells new' false true)) := by
        intro z
        unfold aAppend
        simp only [Nat.zero_add]
        rw [if_neg (by simp), if_neg (by omega), if_pos (fitsB_iff hf)]
      rw [e]
      exact s.new_acc hm hnew sz n false true
  · rename_i q sz'
    simp only [VL] at hx
    obtain ⟨j, h1, rfl⟩ := hx
    split at h
    case isFalse => cases h
    rename_i hf
    obtain ⟨rfl, hf⟩ := hf
    obtain rfl := Option.some.inj h
    by_cases hn : n = 0
    · subst hn
      obtain rfl := hz rfl
      have e : aAppend sz' bytes (.slice (some (j, q.2)) sz' 0 0 true) 0 new' M = some (.slice (some (j, q.2)) sz' 0 0 true, M) := by simp [aAppend]
      rw [e]
      exact s.new_sol hm _ _ _ (fun _ => rfl)
    · have e : aAppend sz' bytes (.slice (some (j, q.2)) sz' 0 0 true) n new' M = some (.slice (some (M.next, 0)) sz' n n false, M.push (.cells ([] ++ new') false true)) := by
        unfold aAppend
        simp only [Nat.zero_add]
        rw [if_neg (by simp), if_neg (by omega), if_pos (fitsB_iff hf)]
        rfl
      rw [e]
      exact s.new_acc hm hnew sz' n false true
  · rename_i q sz' len cap ex _
    have hx0 := hx
    simp only [VL] at hx
    obtain ⟨j, h1, rfl⟩ := hx
    split at h
    case isFalse => cases h
    rename_i e
    subst e
    split at h
    · rename_i hn
      subst hn
      split at h
      case isFalse => cases h
      rename_i hle
      obtain rfl := Option.some.inj h
      have e : aAppend sz' bytes (.slice (some (j, q.2)) sz' len cap ex) 0 new' M = some (.slice (some (j, q.2)) sz' len cap ex, M) := by simp [aAppend, hle]
      rw [e]
      exact sol1_ok s hm hx0
    · rename_i hn
      split at h
      · rename_i hle
        split at h
        case isFalse => cases h
        rename_i ok
        obtain ⟨H', h2, rfl⟩ := Option.map_eq_some_iff.1 h
        obtain ⟨M', h3, h4⟩ := s.writeRes h1 hnew ok h2
        refine ⟨.slice (some (j, q.2)) sz' (len + n) cap ex, M', ι, ?_, h4, by simp only [VL]; exact ⟨j, h1, rfl⟩⟩
        simp only [aAppend]
        rw [if_neg (by simp), if_pos hle, if_neg hn, h3]
        rfl
      · rename_i hle
        split at h
        case isFalse => cases h
        rename_i hf
        split at h
        case h_2 => cases h
        rename_i cs sl hg
        split at h
        case isFalse => cases h
        rename_i hc
        obtain rfl := Option.some.inj h
        obtain ⟨hq, rfl, hl⟩ := hc
        rw [hq]
        exact grow_ok s hm h1 hnew hg hl hn hf
  · cases h

theorem vCopy_ok {fr : Fr} {ι : VI} {H M : Heap} (s : VS ι H M) {sz : Nat} {d d' x x' : AV} (hd : VL M (own ι) ι d d') (hx : VL M (own ι) ι x x') {r : AV × Heap}
    (h : vCopy fr sz d x H = some r) : NRel fr ι H M r (aCopy sz d' x' M) := by
  unfold vCopy at h
  split at h
  case h_3 => cases h
  case h_2 =>
    rename_i b o sz' len w
    simp only [VL] at hd
    obtain ⟨p, s', cap, ex, rfl, g1, g2⟩ := hd
    split at h
    case isFalse => cases h
    rename_i hcond
    obtain ⟨⟨n0, el⟩, h1, h⟩ := Option.bind_eq_some_iff.1 h
    obtain ⟨el', h2, h3⟩ := vElems_rel s hx h1
    have h4 := vElemSize_rel hx hcond.2
    simp only [aCopy]
    rw [if_pos ⟨by cases p with
      | none => exact .inl rfl
      | some p => exact .inr ((g1.2.2 (by simp)).trans hcond.1), h4⟩, h2, Option.bind_some]
    simp only at h ⊢
    split at h
    · rename_i hn
      obtain rfl := Option.some.inj h
      have : NRel fr ι H M (.int .i64 ((min n0 len : Nat) : Int), H) (some (.int .i64 ((min n0 len : Nat) : Int), M)) := NRel.quiet s (VL.scal rfl)
      cases p with
      | none => exact this
      | some p => simpa only [if_pos hn] using this
    · rename_i hn
      obtain ⟨j, q1, q2, _⟩ := g2.resolve_right (fun h => by have := h.2.1; omega)
      rw [q2 (by omega)]
      simp only
      rw [if_neg hn]
      split at h
      case isFalse => cases h
      rename_i ok
      obtain ⟨H', h5, rfl⟩ := Option.map_eq_some_iff.1 h
      obtain ⟨M', h6, h7⟩ := s.writeRes q1 (h3.take _) ok h5
      rw [h6]
      exact ⟨_, M', ι, rfl, h7, VL.scal rfl⟩
  rename_i a sz' len cap ex
  split at h
  case isFalse => cases h
  rename_i hcond
  obtain ⟨⟨n0, el⟩, h1, h⟩ := Option.bind_eq_some_iff.1 h
  obtain ⟨el', h2, h3⟩ := vElems_rel s hx h1
  have h4 := vElemSize_rel hx hcond.2
  cases a with
  | none =>
    simp only [VL] at hd
    subst hd
    simp only [aCopy]
    rw [if_pos ⟨.inl trivial, h4⟩, h2, Option.bind_some]
    simp only at h ⊢
    obtain rfl := Option.some.inj h
    exact NRel.quiet s (VL.scal rfl)
  | some q =>
    obtain ⟨b, o⟩ := q
    simp only [VL] at hd
    obtain ⟨j, g1, rfl⟩ := hd
    simp only [aCopy]
    rw [if_pos ⟨.inr (hcond.1.resolve_left (by simp)), h4⟩, h2, Option.bind_some]
    simp only at h ⊢
    split at h
    · rename_i hn
      rw [if_pos hn]
      obtain rfl := Option.some.inj h
      exact NRel.quiet s (VL.scal rfl)
    · rename_i hn
      rw [if_neg hn]
      split at h
      case isFalse => cases h
      rename_i ok
      obtain ⟨H', h5, rfl⟩ := Option.map_eq_some_iff.1 h
      obtain ⟨M', h6, h7⟩ := s.writeRes g1 (h3.take _) ok h5
      rw [h6]
      exact ⟨_, M', ι, rfl, h7, VL.scal rfl⟩

theorem VL.unit {M : Heap} {O : Nat → Prop} {κ : VI} : VL M O κ (.tuple []) (.tuple []) := by
  simp only [VL]
  exact ⟨[], rfl, by simp [VLL]⟩

/-- What V asks of calls. -/
def VSim (c : VCalls) (C : ACalls) : Prop := ∀ fr f vs H r, c fr f vs H = some r → ∀ ι M as, VS ι H M → fr.mark ≤ H.next → VLL M (own ι) ι vs as → NRel fr ι H M r (C f as M)

theorem vN_ok {c : VCalls} {C : ACalls} (hC : VSim c C) {fr : Fr} {ι : VI} {H M : Heap} (s : VS ι H M) (hm : fr.mark ≤ H.next) {ρ σ : Nat → AV} (h : ∀ t, VL M (own ι) ι (ρ t) (σ t))
    {o : NOp} (hc : o.okc = true) {r : AV × Heap} (hv : vN c fr (o.sub ρ) H = some r) : NRel fr ι H M r (aN C (o.sub σ) [] M) := by
  cases o with
  | store n a v =>
    simp only [NOp.okc, Bool.and_eq_true] at hc
    have ha := ev_rel h hc.1
    have hv' := ev_rel h hc.2
    simp only [NOp.sub, vN, aN] at hv ⊢
    generalize (a.sub ρ).ev [] = A at *
    generalize (a.sub σ).ev [] = A' at *
    generalize (v.sub ρ).ev [] = V at *
    generalize (v.sub σ).ev [] = V' at *
    split at hv
    case isFalse => cases hv
    rename_i ok
    unfold aStore at hv
    split at hv
    case h_2 => cases hv
    rename_i b o cs hcs
    split at hv
    case isFalse => cases hv
    rename_i hlen
    obtain ⟨H', h1, rfl⟩ := Option.map_eq_some_iff.1 hv
    simp only [VL] at ha
    obtain ⟨j, g1, rfl⟩ := ha
    obtain ⟨cs', g2, g3⟩ := hv'.cells hcs
    have ok' : okStore fr b cs = true := by
      unfold ptrOk at ok
      rw [hcs] at ok
      exact ok
    obtain ⟨M', h2, h3⟩ := s.writeRes g1 g3 ok' h1
    refine ⟨.tuple [], M', ι, ?_, h3, VL.unit⟩
    unfold aStore
    rw [g2]
    simp only
    rw [if_pos (by rw [← g3.length]; exact hlen), h2]
    rfl
  | call f xs =>
    simp only [NOp.okc, Bool.and_eq_true] at hc
    have hf := ev_rel h hc.1
    have hx := evs_rel h hc.2
    simp only [NOp.sub, vN, aN] at hv ⊢
    generalize (f.sub ρ).ev [] = F at *
    generalize (f.sub σ).ev [] = F' at *
    split at hv
    case h_2 => cases hv
    simp only [VL] at hf
    obtain ⟨cs', rfl, hcs⟩ := hf
    simp only [aCall]
    exact hC _ _ _ _ _ hv ι M _ s hm (hx.append hcs)
  | append sz bytes a x =>
    simp only [NOp.okc, Bool.and_eq_true] at hc
    have ha := ev_rel h hc.1
    have hx := ev_rel h hc.2
    simp only [NOp.sub, vN, aN] at hv ⊢
    split at hv
    case isFalse => cases hv
    rename_i hsz
    rw [if_pos (vElemSize_rel hx hsz)]
    obtain ⟨⟨n, el⟩, h1, hv⟩ := Option.bind_eq_some_iff.1 hv
    obtain ⟨el', h2, h3⟩ := vElems_rel s hx h1
    rw [h2, Option.bind_some]
    exact vAppend_ok s hm ha h3 (fun h0 => by subst h0; exact vElems_zero s hx h1) hv
  | appendZ sz bytes z a n =>
    simp only [NOp.okc, Bool.and_eq_true] at hc
    have ha := ev_rel h hc.1.2
    have hn := ev_rel h hc.2
    simp only [NOp.sub, vN, aN] at hv ⊢
    generalize (n.sub ρ).ev [] = N at *
    cases N <;> (try simp only at hv) <;> first | (cases hv; done) | skip
    rw [hn.eq rfl]
    simp only
    split at hv
    case isFalse => cases hv
    rename_i hcond
    rw [if_pos hcond]
    split at hv
    case h_2 => cases hv
    rename_i z hz
    rw [hz] at ha
    simp only [VL] at ha
    split at hv
    case isFalse => cases hv
    rename_i hf
    obtain rfl := Option.some.inj hv
    have e : ∀ m, m ≠ 0 → fitsB bytes m = true → ∀ new', aAppend sz bytes (.slice none z 0 0 true) m new' M = some (.slice (some (M.next, 0)) sz m m false, M.push (.cells new' false true)) := by
      intro m hm hf new'
      unfold aAppend
      simp only [Nat.zero_add]
      rw [if_neg (by simp), if_neg (by omega), if_pos (fitsB_iff hf)]
    rw [ha, e _ (by omega) hf]
    exact ⟨_, _, _, rfl, s.pushRes hm ⟨_, _, _, rfl, fun h => h, VLL.reps hc.1.1 _⟩, by simp only [VL]; exact ⟨M.next, VI.put_self _ _ _, rfl⟩⟩
  | copy sz d x =>
    simp only [NOp.okc, Bool.and_eq_true] at hc
    simp only [NOp.sub, vN, aN] at hv ⊢
    exact vCopy_ok s (ev_rel h hc.1) (ev_rel h hc.2) hv
  | clear sz z x =>
    simp only [NOp.okc, Bool.and_eq_true] at hc
    have hx := ev_rel h hc.2
    simp only [NOp.sub, vN, aN] at hv ⊢
    generalize (x.sub ρ).ev [] = X at *
    generalize (x.sub σ).ev [] = X' at *
    split at hv
    case isFalse => cases hv
    rename_i ok
    cases X with
    | slice a sz' len cap ex =>
      cases a with
      | none =>
        simp only [VL] at hx
        subst hx
        simp only [aClear, Option.some.injEq] at hv ⊢
        subst hv
        exact NRel.quiet s VL.unit
      | some q =>
        obtain ⟨b, o⟩ := q
        simp only [VL] at hx
        obtain ⟨j, g1, rfl⟩ := hx
        simp only [aClear] at hv ⊢
        split at hv
        case isFalse => cases hv
        rename_i hsz
        rw [if_pos hsz]
        split at hv
        · rename_i hl
          rw [if_pos hl]
          obtain rfl := Option.some.inj hv
          exact NRel.quiet s VL.unit
        · rename_i hl
          rw [if_neg hl]
          obtain ⟨H', h1, rfl⟩ := Option.map_eq_some_iff.1 hv
          have ok' : okStore fr b (reps len z) = true := by
            have hid : idsOfL z = [] := by
              refine List.eq_nil_iff_forall_not_mem.2 fun i hi => ?_
              obtain ⟨_, e⟩ := (VLL.ids z z (VLL.const (M := M) (O := own ι) (κ := VI.none) z hc.1) i hi).resolve_right (by simp [VI.none])
              cases e
            have hid2 : ∀ n, idsOfL (reps n z) = [] := by
              intro n
              refine List.eq_nil_iff_forall_not_mem.2 fun i hi => ?_
              obtain ⟨_, e⟩ := (VLL.ids _ _ (VLL.reps (M := M) (O := own ι) (κ := VI.none) hc.1 n) i hi).resolve_right (by simp [VI.none])
              cases e
            simp [okStore, hid2]
          obtain ⟨M', h2, h3⟩ := s.writeRes g1 (VLL.reps hc.1 len) ok' h1
          rw [h2]
          exact ⟨_, M', ι, rfl, h3, VL.unit⟩
    | _ => simp [aClear] at hv
  | cvBytes x =>
    have hx := ev_rel h hc
    simp only [NOp.sub, vN, aN] at hv ⊢
    generalize (x.sub ρ).ev [] = X at *
    generalize (x.sub σ).ev [] = X' at *
    unfold aCvBytes at hv
    split at hv
    case h_2 => cases hv
    rename_i b o sz len cap ex
    split at hv
    · cases hv
    rename_i hcap
    split at hv
    case h_2 => cases hv
    rename_i c sl hg
    obtain rfl := Option.some.inj hv
    simp only [VL] at hx
    obtain ⟨j, g1, rfl⟩ := hx
    obtain ⟨c', ro', sl', q2, q4, q3⟩ := s.at g1 hg
    obtain ⟨rfl, hw⟩ := q4 rfl
    obtain ⟨p1, p2⟩ := s.put g1 hw (x := some (.cells c false sl)) (y := some (.cells c' false sl')) (fun x' hx' => by
      obtain rfl := Option.some.inj hx'
      exact ⟨_, _, _, rfl, fun h => h, q3⟩)
    refine ⟨.slice (some (j, o)) sz len cap ex, M.put j (some (.cells c' false sl')), ι, ?_, ⟨p1, p2, ?_, Nat.le_refl _⟩, ?_⟩
    · simp only [aCvBytes, if_neg hcap, q2]
    · refine Guar.of_get fun i _ => .inl ?_
      simp only [Heap.put]
      split
      · rename_i e
        rw [e, hg]
      · rfl
    · simp only [VL]
      exact ⟨j, g1, rfl⟩
  | mapUpdate m k v => simp [NOp.sub, vN] at hv
  | mapDelete m k => simp [NOp.sub, vN] at hv
  | fail => simp [NOp.sub, vN] at hv

theorem vop_ok {c : VCalls} {C : ACalls} (hC : VSim c C) {fr : Fr} {ι : VI} {H M : Heap} (s : VS ι H M) (hm : fr.mark ≤ H.next) {ρ σ : Nat → AV} (h : ∀ t, VL M (own ι) ι (ρ t) (σ t))
    {o : AOp} (hc : o.okc = true) {r : AV × Heap} (hv : vop c fr (o.sub ρ) H = some r) : NRel fr ι H M r (aop C (o.sub σ) [] M) := by
  cases o with
  | p o =>
    simp only [AOp.sub, vop, aop] at hv ⊢
    obtain ⟨v, h1, rfl⟩ := Option.map_eq_some_iff.1 hv
    obtain ⟨a, h2, h3⟩ := vP_ok h hc h1
    rw [h2]
    exact NRel.quiet s h3
  | l o =>
    simp only [AOp.sub, vop, aop] at hv ⊢
    obtain ⟨v, h1, rfl⟩ := Option.map_eq_some_iff.1 hv
    obtain ⟨a, h2, h3⟩ := vL_ok s h hc h1
    rw [h2]
    exact NRel.quiet s h3
  | k o =>
    simp only [AOp.sub, vop, aop] at hv ⊢
    obtain ⟨⟨x, mk⟩, h1, rfl⟩ := Option.map_eq_some_iff.1 hv
    obtain ⟨y, h2, h3, h4⟩ := vK_ok s h hc h1
    rw [h2]
    refine ⟨_, _, _, rfl, s.pushRes hm h3, ?_⟩
    cases mk with
    | ptr => simp only [Mk.val, VL]; exact ⟨M.next, VI.put_self _ _ _, rfl⟩
    | slice sz len cap ex => simp only [Mk.val, VL]; exact ⟨M.next, VI.put_self _ _ _, rfl⟩
    | map => exact absurd rfl h4
  | n o =>
    simp only [AOp.sub, vop, aop] at hv ⊢
    exact vN_ok hC s hm h hc hv

end Go.Proofs.Ytachollgbplikaa
