/- Plain laws: numbers as bytes. -/
import Derived.Test.YtkedeiklmpkgkaaL1
set_option linter.all false
set_option linter.unusedSimpArgs false
namespace Go.Proofs.Ytkedeiklmpkgkaa

/-! ### A number's bytes -/

def encN (n : Nat) : List UInt8 := if n < 128 then [UInt8.ofNat n] else UInt8.ofNat (n % 128 + 128) :: encN (n / 128)
theorem encN_small {n : Nat} (h : n < 128) : encN n = [UInt8.ofNat n] := by rw [encN, if_pos h]
theorem encN_big {n : Nat} (h : ¬ n < 128) : encN n = UInt8.ofNat (n % 128 + 128) :: encN (n / 128) := by rw [encN, if_neg h]
theorem u8_nat {n : Nat} (h : n < 256) : (UInt8.ofNat n).toNat = n := by
  rw [UInt8.toNat_ofNat', Nat.mod_eq_of_lt (by omega)]
theorem encN_pos (n : Nat) : 0 < (encN n).length := by
  rw [encN]
  split <;> simp
theorem encN_len (j : Nat) : ∀ x : Nat, x < 128 ^ (j + 1) → (encN x).length ≤ j + 1 := by
  induction j with
  | zero => intro x h; rw [encN_small (by simpa using h)]; simp
  | succ j ih =>
    intro x h
    by_cases c : x < 128
    · rw [encN_small c]; simp
    · rw [encN_big c]
      have := ih (x / 128) (by
        rw [Nat.div_lt_iff_lt_mul (by omega)]
        rw [Nat.pow_succ] at h
        exact h)
      simp only [List.length_cons]
      omega
theorem encN_le9 {x : Nat} (h : x ≤ 4611686018427387903) : (encN x).length ≤ 9 := encN_len 8 x (by
  have : (128 : Nat) ^ (8 + 1) = 9223372036854775808 := by decide
  omega)

/-! ### Where a number ends, and its value -/

def endsAt : List UInt8 → Option Nat
  | [] => none
  | c :: r => if c.toNat < 128 then some 0 else (endsAt r).map (· + 1)

theorem endsAt_drop (b : List UInt8) : ∀ i, i ≤ b.length → (∀ j (h : j < i) (h' : j < b.length), ¬ (b[j]).toNat < 128) → endsAt b = (endsAt (b.drop i)).map (· + i) := by
  induction b with
  | nil => intro i h _; simp [endsAt]
  | cons c r ih =>
    intro i h hs
    cases i with
    | zero => simp
    | succ i =>
      have h0 := hs 0 (by omega) (by simp)
      simp only [List.getElem_cons_zero] at h0
      simp only [endsAt, if_neg h0, List.drop_succ_cons]
      rw [ih i (by simpa using h) (fun j h1 h2 => by
        have := hs (j + 1) (by omega) (by simp; omega)
        simpa using this), Option.map_map]
      congr 1

theorem endsAt_lt : ∀ {b : List UInt8} {i : Nat}, endsAt b = some i → i < b.length
  | [], i, h => by simp [endsAt] at h
  | c :: r, i, h => by
    simp only [endsAt] at h
    split at h
    · obtain rfl := Option.some.inj h
      simp
    · cases he : endsAt r with
      | none => rw [he] at h; cases h
      | some k =>
        rw [he] at h
        have := endsAt_lt he
        simp only [Option.map_some, Option.some.injEq] at h
        simp only [List.length_cons]
        omega

theorem endsAt_spec : ∀ {b : List UInt8} {i : Nat} (h : endsAt b = some i), (∀ j (h1 : j < i) (h2 : j < b.length), ¬ (b[j]).toNat < 128) ∧ ∃ h' : i < b.length, (b[i]).toNat < 128
  | [], i, h => by simp [endsAt] at h
  | c :: r, i, h => by
    simp only [endsAt] at h
    split at h
    · rename_i hc
      obtain rfl := Option.some.inj h
      exact ⟨fun j h1 => by omega, by simp, by simpa using hc⟩
    · rename_i hc
      cases he : endsAt r with
      | none => rw [he] at h; cases h
      | some k =>
        rw [he] at h
        obtain ⟨q1, q2, q3⟩ := endsAt_spec he
        simp only [Option.map_some, Option.some.injEq] at h
        subst h
        refine ⟨fun j h1 h2 => ?_, by simp; omega, by simpa using q3⟩
        cases j with
        | zero => simpa using hc
        | succ j => simpa using q1 j (by omega) (by simpa using h2)

theorem endsAt_none : ∀ {b : List UInt8}, endsAt b = none ↔ ∀ c ∈ b, ¬ c.toNat < 128
  | [] => by simp [endsAt]
  | c :: r => by
    simp only [endsAt]
    by_cases hc : c.toNat < 128
    · rw [if_pos hc]
      simp only [List.mem_cons, forall_eq_or_imp, hc, not_true, false_and, iff_false]
      intro e; cases e
    · rw [if_neg hc]
      simp only [List.mem_cons, forall_eq_or_imp, hc, not_false_eq_true, true_and, Option.map_eq_none_iff]
      exact endsAt_none

theorem endsAt_take {b : List UInt8} {i n : Nat} (h : endsAt b = some i) (hn : i < n) : endsAt (b.take n) = some i := by
  induction b generalizing i n with
  | nil => simp [endsAt] at h
  | cons c r ih =>
    obtain ⟨n, rfl⟩ : ∃ m, n = m + 1 := ⟨n - 1, by omega⟩
    simp only [List.take_succ_cons, endsAt] at h ⊢
    split at h
    · rename_i hc
      obtain rfl := Option.some.inj h
      rw [if_pos hc]
    · rename_i hc
      rw [if_neg hc]
      cases he : endsAt r with
      | none => rw [he] at h; cases h
      | some k =>
        rw [he] at h
        simp only [Option.map_some, Option.some.injEq] at h
        rw [ih he (by omega), Option.map_some, h]

theorem endsAt_take_none {b : List UInt8} {n : Nat} (h : ∀ i, endsAt b = some i → n ≤ i) : endsAt (b.take n) = none := by
  rw [endsAt_none]
  intro c hc
  obtain ⟨j, hj, rfl⟩ := List.mem_iff_getElem.1 hc
  rw [List.length_take] at hj
  rw [List.getElem_take]
  cases he : endsAt b with
  | none => exact endsAt_none.1 he _ (List.getElem_mem _)
  | some i => exact (endsAt_spec he).1 j (by have := h i he; omega) (by omega)

/-- The value of bytes, the lowest first, seven bits each. -/
def valOf : List UInt8 → Nat
  | [] => 0
  | c :: r => c.toNat % 128 + 128 * valOf r

theorem valOf_lt : ∀ l : List UInt8, valOf l < 128 ^ l.length
  | [] => by simp [valOf]
  | c :: r => by
    have := valOf_lt r
    simp only [valOf, List.length_cons, Nat.pow_succ]
    omega

theorem valOf_app : ∀ l m : List UInt8, valOf (l ++ m) = valOf l + 128 ^ l.length * valOf m
  | [], m => by simp [valOf]
  | c :: r, m => by
    have := valOf_app r m
    simp only [List.cons_append, valOf, this, List.length_cons, Nat.pow_succ]
    rw [Nat.mul_add, Nat.add_assoc, ← Nat.mul_assoc, Nat.mul_comm (128 ^ r.length) 128]

theorem valOf_enc (n : Nat) : valOf (encN n) = n := by
  induction n using Nat.strongRecOn with
  | _ n ih =>
    by_cases h : n < 128
    · rw [encN_small h]
      simp only [valOf, u8_nat (show n < 256 by omega)]
      omega
    · rw [encN_big h]
      simp only [valOf, ih (n / 128) (by omega), u8_nat (show n % 128 + 128 < 256 by omega)]
      omega

theorem endsAt_enc (n : Nat) (r : List UInt8) : endsAt (encN n ++ r) = some ((encN n).length - 1) := by
  induction n using Nat.strongRecOn with
  | _ n ih =>
    by_cases h : n < 128
    · rw [encN_small h]
      simp only [List.cons_append, endsAt, u8_nat (show n < 256 by omega), if_pos h]
      rfl
    · have := encN_pos (n / 128)
      rw [encN_big h]
      simp only [List.cons_append, endsAt, ih (n / 128) (by omega), u8_nat (show n % 128 + 128 < 256 by omega)]
      rw [if_neg (by omega)]
      simp only [Option.map_some, List.length_cons, Option.some.injEq]
      omega

theorem encN_last (n : Nat) (h : ¬ n < 128) : (encN n)[(encN n).length - 1]? ≠ some 0 := by
  induction n using Nat.strongRecOn with
  | _ n ih =>
    rw [encN_big h]
    have hp := encN_pos (n / 128)
    have e : (UInt8.ofNat (n % 128 + 128) :: encN (n / 128)).length - 1 = ((encN (n / 128)).length - 1) + 1 := by simp; omega
    rw [e, List.getElem?_cons_succ]
    by_cases c : n / 128 < 128
    · rw [encN_small c]
      intro q
      replace q : UInt8.ofNat (n / 128) = 0 := Option.some.inj q
      have : (UInt8.ofNat (n / 128)).toNat = 0 := by rw [q]; rfl
      rw [u8_nat (by omega)] at this
      omega
    · exact ih _ (by omega) c

/-! ### Taking a number -/

def takeAt (b : List UInt8) (i : Nat) : Int × Int × Int :=
  if 9 ≤ i ∨ (0 < i ∧ b[i]? = some 0) then (0, 0, 2) else if 4611686018427387903 < valOf (b.take (i + 1)) then (0, 0, 2) else (((valOf (b.take (i + 1)) : Nat) : Int), ((i + 1 : Nat) : Int), 0)

/-- What a number is taken to be: its value, how many bytes, why not. -/
def takeOf (b : List UInt8) : Int × Int × Int :=
  match endsAt b with
  | none => (0, 0, 3)
  | some i => takeAt b i

def TakeOf (b : List UInt8) : Int × List UInt8 × Int :=
  match takeOf b with
  | (v, k, e) => if e = 0 then (v, b.drop k.toNat, 0) else (0, [], e)

theorem takeOf_le (b : List UInt8) : 0 ≤ (takeOf b).2.1 ∧ (takeOf b).2.1 ≤ (b.length : Int) := by
  unfold takeOf
  cases he : endsAt b with
  | none => simp
  | some i =>
    have := endsAt_lt he
    show 0 ≤ (takeAt b i).2.1 ∧ (takeAt b i).2.1 ≤ (b.length : Int)
    unfold takeAt
    split
    · simp
    · split
      · simp
      · simp only
        omega

/-- All that a taken number may be. -/
theorem takeOf_cases (b : List UInt8) : takeOf b = (0, 0, 3) ∨ takeOf b = (0, 0, 2) ∨ ∃ v k : Nat, takeOf b = ((v : Int), (k : Int), 0) ∧ v ≤ 4611686018427387903 ∧ 1 ≤ k ∧ k ≤ 9 ∧ k ≤ b.length := by
  unfold takeOf
  cases he : endsAt b with
  | none => exact .inl rfl
  | some i =>
    right
    have := endsAt_lt he
    show takeAt b i = _ ∨ ∃ v k : Nat, takeAt b i = _ ∧ _
    unfold takeAt
    split
    · exact .inl rfl
    · rename_i h1
      split
      · exact .inl rfl
      · rename_i h2
        exact .inr ⟨_, i + 1, rfl, by omega, by omega, by
          rcases Nat.lt_or_ge i 9 with q | q
          · omega
          · exact absurd (.inl q) h1, by omega⟩

theorem TakeOf_cases (b : List UInt8) : TakeOf b = (0, [], 3) ∨ TakeOf b = (0, [], 2) ∨ ∃ v k : Nat, TakeOf b = ((v : Int), b.drop k, 0) ∧ takeOf b = ((v : Int), (k : Int), 0) ∧ v ≤ 4611686018427387903 ∧ 1 ≤ k ∧ k ≤ 9 ∧ k ≤ b.length := by
  unfold TakeOf
  rcases takeOf_cases b with e | e | ⟨v, k, e, h⟩
  · rw [e]; exact .inl rfl
  · rw [e]; exact .inr (.inl rfl)
  · rw [e]; exact .inr (.inr ⟨v, k, by simp, rfl, h⟩)

theorem takeOf_enc (n : Nat) (hn : n ≤ 4611686018427387903) (r : List UInt8) : takeOf (encN n ++ r) = ((n : Int), ((encN n).length : Int), 0) := by
  have hp := encN_pos n
  have h9 := encN_le9 hn
  unfold takeOf
  rw [endsAt_enc]
  show takeAt _ _ = _
  unfold takeAt
  have e : (encN n).length - 1 + 1 = (encN n).length := by omega
  have h0 : ¬ (9 ≤ (encN n).length - 1 ∨ (0 < (encN n).length - 1 ∧ (encN n ++ r)[(encN n).length - 1]? = some 0)) := by
    rintro (h | ⟨h1, h2⟩)
    · omega
    · have h3 : ¬ n < 128 := fun c => by rw [encN_small c] at h1; simp at h1
      rw [List.getElem?_append_left (by omega)] at h2
      exact encN_last n h3 h2
  rw [if_neg h0, e, List.take_left, valOf_enc, if_neg (by omega)]

theorem TakeOf_enc (n : Nat) (hn : n ≤ 4611686018427387903) (r : List UInt8) : TakeOf (encN n ++ r) = ((n : Int), r, 0) := by
  unfold TakeOf
  rw [takeOf_enc n hn]
  simp

/-- Cut in the number, it is too short. -/
theorem takeOf_cut (n k : Nat) (hk : k < (encN n).length) (r : List UInt8) : takeOf ((encN n ++ r).take k) = (0, 0, 3) := by
  unfold takeOf
  rw [endsAt_take_none fun i hi => by
    rw [endsAt_enc] at hi
    obtain rfl := Option.some.inj hi
    omega]
theorem TakeOf_cut (n k : Nat) (hk : k < (encN n).length) (r : List UInt8) : TakeOf ((encN n ++ r).take k) = (0, [], 3) := by
  unfold TakeOf
  rw [takeOf_cut n k hk]
  rfl

/-- Of nine bytes the same number is taken, or none as well. -/
theorem takeOf_nine (b : List UInt8) : takeOf (b.take 9) = takeOf b ∨ ((takeOf (b.take 9)).2.2 ≠ 0 ∧ (takeOf b).2.2 ≠ 0) := by
  unfold takeOf
  cases he : endsAt b with
  | none =>
    rw [endsAt_take_none fun i hi => by rw [he] at hi; cases hi]
    exact .inl rfl
  | some i =>
    rcases Nat.lt_or_ge i 9 with q | q
    · left
      rw [endsAt_take he q]
      show takeAt _ i = takeAt b i
      unfold takeAt
      rw [List.take_take, Nat.min_eq_left (by omega), List.getElem?_take, if_pos q]
    · right
      rw [endsAt_take_none fun j hj => by rw [he] at hj; obtain rfl := Option.some.inj hj; exact q]
      refine ⟨(by decide : ((0, 0, 3) : Int × Int × Int).2.2 ≠ 0), ?_⟩
      show (takeAt b i).2.2 ≠ 0
      unfold takeAt
      rw [if_pos (.inl q)]
      exact (by decide : ((0, 0, 2) : Int × Int × Int).2.2 ≠ 0)

end Go.Proofs.Ytkedeiklmpkgkaa
