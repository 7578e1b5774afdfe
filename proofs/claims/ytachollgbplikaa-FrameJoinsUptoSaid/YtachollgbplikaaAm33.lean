/- V, ninth part: words for what a law's arguments hold. -/
import Derived.Test.YtachollgbplikaaAm32
set_option linter.all false
set_option linter.unusedSimpArgs false
namespace Go.Proofs.Ytachollgbplikaa

def KK : Nat := 2000000000000

theorem is_map {α : Type} {s : Sh} {f : α → D} {P : α → Prop} (hf : ∀ d, D.is s d → ∃ y, d = f y ∧ P y) : ∀ {l : List D}, (∀ x ∈ l, D.is s x) → ∃ L : List α, l = L.map f ∧ ∀ y ∈ L, P y
  | [], _ => ⟨[], rfl, by simp⟩
  | d :: l, h => by
    obtain ⟨y, rfl, hy⟩ := hf d (h d (by simp))
    obtain ⟨L, rfl, hL⟩ := is_map (l := l) hf fun x hx => h x (by simp [hx])
    exact ⟨y :: L, rfl, by simpa using ⟨hy, hL⟩⟩

theorem is_strs {l : List D} (h : ∀ x ∈ l, D.is .str x) : ∃ L : List (List UInt8), l = L.map D.str := by
  obtain ⟨L, h1, _⟩ := is_map (f := D.str) (P := fun _ => True) (fun d hd => by obtain ⟨s, rfl⟩ := hd; exact ⟨s, rfl, trivial⟩) h
  exact ⟨L, h1⟩

theorem is_ints {l : List D} (h : ∀ x ∈ l, D.is (.int .i64) x) : ∃ L : List Int, l = L.map (D.int .i64) ∧ ∀ n ∈ L, -9223372036854775808 ≤ n ∧ n ≤ 9223372036854775807 :=
  is_map (f := D.int .i64) (fun d hd => by obtain ⟨n, rfl, h1, h2⟩ := hd; exact ⟨n, rfl, h1, h2⟩) h

theorem is_byte {d : D} (h : D.is (.int .u8) d) : ∃ b : UInt8, d = .int .u8 b.toNat := by
  obtain ⟨n, rfl, h1, h2⟩ := h
  simp [IntKind.min, IntKind.max, IntKind.signed, IntKind.bits] at h1 h2
  refine ⟨UInt8.ofNat n.toNat, ?_⟩
  have : (UInt8.ofNat n.toNat).toNat = n.toNat := by
    rw [UInt8.toNat_ofNat']
    omega
  rw [this]
  congr 1
  omega

theorem is_bytes {l : List D} (h : ∀ x ∈ l, D.is (.int .u8) x) : ∃ s : List UInt8, l = s.map fun b => D.int .u8 b.toNat := by
  obtain ⟨L, h1, _⟩ := is_map (f := fun b : UInt8 => D.int .u8 b.toNat) (P := fun _ => True) (fun d hd => by obtain ⟨b, rfl⟩ := is_byte hd; exact ⟨b, rfl, trivial⟩) h
  exact ⟨L, h1⟩

theorem encL_map {α : Type} {s : Sh} {f : α → D} {g : α → List AV} (h : ∀ y, encS s (f y) = g y) : ∀ L : List α, encL s (L.map f) = L.flatMap g
  | [] => rfl
  | y :: L => by simp only [List.map_cons, encL, h, encL_map h L, List.flatMap_cons]

theorem flatMap_one {α β : Type} (f : α → β) (l : List α) : l.flatMap (fun x => [f x]) = l.map f := by
  induction l with
  | nil => rfl
  | cons x l ih => simp [ih]

theorem encL_strs (L : List (List UInt8)) : encL .str (L.map D.str) = L.map AV.str := by
  rw [encL_map (g := fun s => [AV.str s]) (fun _ => rfl), flatMap_one]
theorem encL_ints (L : List Int) : encL (.int .i64) (L.map (D.int .i64)) = L.map (AV.int .i64) := by
  rw [encL_map (g := fun s => [AV.int .i64 s]) (fun _ => rfl), flatMap_one]
theorem encL_bytes (L : List UInt8) : encL (.int .u8) (L.map fun b => D.int .u8 b.toNat) = L.map byteC := by
  rw [encL_map (g := fun b => [byteC b]) (fun _ => rfl), flatMap_one]

/-- The cells from some element on. -/
theorem drop_flat {α : Type} {f : α → List AV} {sz : Nat} (h : ∀ x, (f x).length = sz) : ∀ (L : List α) (i : Nat) (hi : i < L.length), (L.flatMap f).drop (i * sz) = f L[i] ++ (L.drop (i + 1)).flatMap f
  | x :: L, 0, _ => by simp
  | x :: L, i + 1, hi => by
    have := drop_flat h L i (by simpa using hi)
    rw [List.flatMap_cons, List.drop_append, List.drop_eq_nil_of_le (by rw [h, Nat.succ_mul]; omega), List.nil_append, h, show (i + 1) * sz - sz = i * sz from by rw [Nat.succ_mul]; omega, this]
    simp
  | [], i, hi => by simp at hi

theorem length_flat {α : Type} {f : α → List AV} {sz : Nat} (h : ∀ x, (f x).length = sz) (L : List α) : (L.flatMap f).length = L.length * sz := by
  induction L with
  | nil => simp
  | cons x L ih => rw [List.flatMap_cons, List.length_append, ih, h, List.length_cons, Nat.succ_mul, Nat.add_comm]

theorem bulks_mem {d : D} : ∀ {l : List D}, d ∈ l → D.bulk d ≤ D.bulks l
  | [], h => by simp at h
  | x :: l, h => by
    simp only [D.bulks]
    rcases List.mem_cons.1 h with rfl | h
    · omega
    · have := bulks_mem h
      omega

theorem bulks_len : ∀ {l : List D}, (∀ d ∈ l, 1 ≤ D.bulk d) → l.length ≤ D.bulks l
  | [], _ => by simp
  | x :: l, h => by
    have h1 := h x (by simp)
    have h2 := bulks_len fun d hd => h d (List.mem_cons_of_mem _ hd)
    simp only [D.bulks, List.length_cons]
    omega

theorem bulk_strs {L : List (List UInt8)} {n : Nat} (h : D.bulks (L.map D.str) ≤ n) : L.length ≤ n ∧ ∀ s ∈ L, s.length ≤ n := by
  refine ⟨?_, fun s hs => ?_⟩
  · have := bulks_len (l := L.map D.str) (by intro d hd; obtain ⟨s, _, rfl⟩ := List.mem_map.1 hd; simp [D.bulk])
    simp at this
    omega
  · have := bulks_mem (List.mem_map_of_mem (f := D.str) hs)
    simp only [D.bulk] at this
    omega

theorem bulk_map {α : Type} {f : α → D} (hf : ∀ x, 1 ≤ D.bulk (f x)) {L : List α} {n : Nat} (h : D.bulks (L.map f) ≤ n) : L.length ≤ n := by
  have := bulks_len (l := L.map f) (by intro d hd; obtain ⟨s, _, rfl⟩ := List.mem_map.1 hd; exact hf s)
  simp at this
  omega

end Go.Proofs.Ytachollgbplikaa
