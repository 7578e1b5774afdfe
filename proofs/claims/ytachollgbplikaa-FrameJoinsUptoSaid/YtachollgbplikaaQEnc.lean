/- A number's bytes, and taking it: plain. -/
import Derived.Test.YtachollgbplikaaQTake
set_option linter.all false
set_option linter.unusedSimpArgs false
namespace Go.Proofs.Ytachollgbplikaa

theorem idx_none : ∀ (s : List UInt8) (a : Nat), (∃ x, runL idxStep a s = .inl x) ↔ ∀ b ∈ s, 128 ≤ b.toNat
  | [], a => by simp [runL]
  | b :: s, a => by
    have ih := idx_none s (a + 1)
    by_cases c : b.toNat < 128
    · have c' : ¬ 128 ≤ b.toNat := by omega
      simp [runL, idxStep, c, c']
    · have c' : 128 ≤ b.toNat := by omega
      simpa [runL, idxStep, c, c'] using ih

theorem idxOf_none (s : List UInt8) : idxOf s = none ↔ ∀ b ∈ s, 128 ≤ b.toNat := by
  rw [← idx_none s 0]
  unfold idxOf
  cases runL idxStep 0 s <;> simp

theorem hiN_hi (n : Nat) : ∀ b ∈ hiN n, 128 ≤ b.toNat := by
  induction n using Nat.strongRecOn with
  | _ n ih =>
    by_cases h : n < 128
    · rw [hiN_small h]; simp
    · rw [hiN_big h]
      intro b hb
      rcases List.mem_cons.1 hb with rfl | hb
      · rw [UInt8.toNat_ofNat', Nat.mod_eq_of_lt (by omega)]; omega
      · exact ih _ (by omega) b hb

theorem idx_hi : ∀ (s : List UInt8) (b : UInt8) (r : List UInt8) (n : Nat), (∀ b ∈ s, 128 ≤ b.toNat) → b.toNat < 128 → runL idxStep n (s ++ b :: r) = .inr (n + s.length)
  | [], b, r, n, _, hb => by simp [runL, idxStep, hb]
  | x :: s, b, r, n, h, hb => by
    have hx : ¬ x.toNat < 128 := by have := h x (by simp); omega
    simp only [List.cons_append, runL, idxStep, if_neg hx]
    rw [idx_hi s b r (n + 1) (fun y hy => h y (by simp [hy])) hb]
    simp only [List.length_cons, Sum.inr.injEq]
    omega

theorem lo_nat (n : Nat) : (UInt8.ofNat (loN n)).toNat = loN n := by
  have := loN_lt n
  rw [UInt8.toNat_ofNat', Nat.mod_eq_of_lt (by omega)]

theorem idxOf_enc (n : Nat) (r : List UInt8) : idxOf (encN n ++ r) = some (hiN n).length := by
  have h := idx_hi (hiN n) (UInt8.ofNat (loN n)) r 0 (hiN_hi n) (by rw [lo_nat]; exact loN_lt n)
  simp only [idxOf, encN, List.append_assoc, List.singleton_append, h, Nat.zero_add]

theorem lo_pos (n : Nat) (h : ¬ n < 128) : loN n ≠ 0 := by
  induction n using Nat.strongRecOn with
  | _ n ih =>
    rw [loN_big h]
    by_cases c : n / 128 < 128
    · rw [loN_small c]; omega
    · exact ih _ (by omega) c

theorem decA_enc (n : Nat) : decA 0 (encN n) = n := by
  induction n using Nat.strongRecOn with
  | _ n ih =>
    by_cases h : n < 128
    · have h2 := lo_nat n
      rw [loN_small h] at h2
      simp only [encN, hiN_small h, decA, List.nil_append, List.foldr_cons, List.foldr_nil, h2, loN_small h]
      omega
    · have := ih (n / 128) (by omega)
      simp only [encN, decA] at this
      simp only [encN, hiN_big h, loN_big h, decA, List.cons_append, List.foldr_cons, this]
      rw [UInt8.toNat_ofNat', Nat.mod_eq_of_lt (show n % 128 + 128 < 2 ^ 8 by omega)]
      omega

theorem enc_length (x : Nat) : (encN x).length = (hiN x).length + 1 := by simp [encN]

theorem takeOf_enc (n : Nat) (hn : n ≤ 4611686018427387903) (r : List UInt8) : takeOf (encN n ++ r) = ((n : Int), ((encN n).length : Int), 0) := by
  have h8 : (hiN n).length ≤ 8 := hiN_len 8 n (by
    have : (128 : Nat) ^ 9 = 9223372036854775808 := by decide
    omega)
  have ht : (encN n ++ r).take ((hiN n).length + 1) = encN n := by
    rw [← enc_length]
    exact List.take_left
  have h0 : ¬ (9 ≤ (hiN n).length ∨ (0 < (hiN n).length ∧ (encN n ++ r)[(hiN n).length]? = some 0)) := by
    rintro (h | ⟨h1, h2⟩)
    · omega
    · have h3 : ¬ n < 128 := fun c => by rw [hiN_small c] at h1; simp at h1
      have h4 := lo_pos n h3
      have h5 : UInt8.ofNat (loN n) = 0 := by simpa [encN] using h2
      have h6 := lo_nat n
      rw [h5] at h6
      exact h4 h6.symm
  have hg : ¬ 4611686018427387903 < decA 0 (encN n) := by rw [decA_enc]; omega
  simp only [takeOf, idxOf_enc, if_neg h0, ht, if_neg hg]
  rw [decA_enc, enc_length]

theorem takeR_enc (n : Nat) (hn : n ≤ 4611686018427387903) (r : List UInt8) : takeR (encN n ++ r) = ((n : Int), r, 0) := by
  simp only [takeR, takeOf_enc n hn, if_true, Int.toNat_natCast, List.drop_left]

/-- Cut in the number, it is too short. -/
theorem takeR_cut (n k : Nat) (hk : k < (encN n).length) (r : List UInt8) : takeR ((encN n ++ r).take k) = (0, [], 3) := by
  have h1 : (encN n ++ r).take k = (hiN n).take k := by
    rw [enc_length] at hk
    rw [List.take_append_of_le_length (by rw [enc_length]; omega), encN, List.take_append_of_le_length (by omega)]
  have h2 : idxOf ((hiN n).take k) = none := (idxOf_none _).2 fun b hb => hiN_hi n b (List.mem_of_mem_take hb)
  simp only [takeR, takeOf, h1, h2]
  rfl

end Go.Proofs.Ytachollgbplikaa
