/- What is laid is taken again: plain. -/
import Derived.Test.YtecjbeljchbihaaQPlain
set_option linter.all false
set_option linter.unusedSimpArgs false
namespace Go.Proofs.Ytecjbeljchbihaa

theorem hiN_hi (n : Nat) : ∀ b ∈ hiN n, 128 ≤ b.toNat := by
  induction n using Nat.strongRecOn with
  | _ n ih =>
    by_cases h : n < 128
    · rw [hiN_small h]; simp
    · rw [hiN_big h]
      intro b hb
      rcases List.mem_cons.1 hb with rfl | hb
      · rw [UInt8.toNat_ofNat', Nat.mod_eq_of_lt (by omega)]; omega
      · exact ih _ (by omega) b hb

theorem idx_hi : ∀ (s : List UInt8) (b : UInt8) (r : List UInt8) (n : Nat), (∀ b ∈ s, 128 ≤ b.toNat) → b.toNat < 128 → runL idxStep n (s ++ b :: r) = .inr (n + s.length)
  | [], b, r, n, _, hb => by simp [runL, idxStep, hb]
  | x :: s, b, r, n, h, hb => by
    have hx : ¬ x.toNat < 128 := by have := h x (by simp); omega
    simp only [List.cons_append, runL, idxStep, if_neg hx]
    rw [idx_hi s b r (n + 1) (fun y hy => h y (by simp [hy])) hb]
    simp only [List.length_cons, Sum.inr.injEq]
    omega

theorem lo_nat (n : Nat) : (UInt8.ofNat (loN n)).toNat = loN n := by
  have := loN_lt n
  rw [UInt8.toNat_ofNat', Nat.mod_eq_of_lt (by omega)]

theorem idxOf_enc (n : Nat) (r : List UInt8) : idxOf (encN n ++ r) = some (hiN n).length := by
  have h := idx_hi (hiN n) (UInt8.ofNat (loN n)) r 0 (hiN_hi n) (by rw [lo_nat]; exact loN_lt n)
  simp only [idxOf, encN, List.append_assoc, List.singleton_append, h, Nat.zero_add]

theorem lo_pos (n : Nat) (h : ¬ n < 128) : loN n ≠ 0 := by
  induction n using Nat.strongRecOn with
  | _ n ih =>
    rw [loN_big h]
    by_cases c : n / 128 < 128
    · rw [loN_small c]; omega
    · exact ih _ (by omega) c

theorem decA_enc (n : Nat) : decA 0 (encN n) = n := by
  induction n using Nat.strongRecOn with
  | _ n ih =>
    by_cases h : n < 128
    · have h2 := lo_nat n
      rw [loN_small h] at h2
      simp only [encN, hiN_small h, decA, List.nil_append, List.foldr_cons, List.foldr_nil, h2, loN_small h]
      omega
    · have := ih (n / 128) (by omega)
      simp only [encN, decA] at this
      simp only [encN, hiN_big h, loN_big h, decA, List.cons_append, List.foldr_cons, this]
      rw [UInt8.toNat_ofNat', Nat.mod_eq_of_lt (show n % 128 + 128 < 2 ^ 8 by omega)]
      omega

theorem enc_length (x : Nat) : (encN x).length = (hiN x).length + 1 := by simp [encN]

theorem takeOf_enc (n : Nat) (hn : n ≤ 4611686018427387903) (r : List UInt8) : takeOf (encN n ++ r) = ((n : Int), ((encN n).length : Int), 0) := by
  have h8 : (hiN n).length ≤ 8 := hiN_len 8 n (by
    have : (128 : Nat) ^ 9 = 9223372036854775808 := by decide
    omega)
  have ht : (encN n ++ r).take ((hiN n).length + 1) = encN n := by
    rw [← enc_length]
    exact List.take_left
  have h0 : ¬ (9 ≤ (hiN n).length ∨ (0 < (hiN n).length ∧ (encN n ++ r)[(hiN n).length]? = some 0)) := by
    rintro (h | ⟨h1, h2⟩)
    · omega
    · have h3 : ¬ n < 128 := fun c => by rw [hiN_small c] at h1; simp at h1
      have h4 := lo_pos n h3
      have h5 : UInt8.ofNat (loN n) = 0 := by simpa [encN] using h2
      have h6 := lo_nat n
      rw [h5] at h6
      exact h4 h6.symm
  have hg : ¬ 4611686018427387903 < decA 0 (encN n) := by rw [decA_enc]; omega
  simp only [takeOf, idxOf_enc, if_neg h0, ht, if_neg hg]
  rw [decA_enc, enc_length]

theorem takeR_enc (n : Nat) (hn : n ≤ 4611686018427387903) (r : List UInt8) : takeR (encN n ++ r) = ((n : Int), r, 0) := by
  simp only [takeR, takeOf_enc n hn, if_true, Int.toNat_natCast, List.drop_left]

theorem takeTextR_enc (w r : List UInt8) (hn : w.length ≤ 4611686018427387903) : takeTextR (encN w.length ++ w ++ r) = (w, r, 0) := by
  have h : ¬ ((w.length : Int) > ((encN w.length ++ (w ++ r)).length : Int) - ((encN w.length).length : Int)) := by
    simp only [List.length_append]
    omega
  rw [List.append_assoc]
  simp only [takeTextR, takeOf_enc _ hn, if_true, if_neg h, Int.toNat_natCast, List.drop_left, List.take_left]
  rw [← List.drop_drop, List.drop_left, List.drop_left]

/-- Cut in the number, it is too short. -/
theorem takeR_cut (n k : Nat) (hk : k < (encN n).length) (r : List UInt8) : takeR ((encN n ++ r).take k) = (0, [], 3) := by
  have h1 : (encN n ++ r).take k = (hiN n).take k := by
    rw [enc_length] at hk
    rw [List.take_append_of_le_length (by rw [enc_length]; omega), encN, List.take_append_of_le_length (by omega)]
  have h2 : idxOf ((hiN n).take k) = none := (idxOf_none _).2 fun b hb => hiN_hi n b (List.mem_of_mem_take hb)
  simp only [takeR, takeOf, h1, h2]
  rfl

def encNs (l : List Nat) : List UInt8 := l.flatMap encN

theorem takesR_run (s : List UInt8) (n : Nat) : takesR s n = (match runL rtakesStep ([], s) (List.replicate n ()) with
    | .inl p => ((p.1, p.2, 0) : List Int × List UInt8 × Int)
    | .inr e => ([], [], e.1)) := (rtakes_eq s n [] 0).symm

theorem takes_enc : ∀ (l : List Nat) (p : List Int) (r : List UInt8), (∀ n ∈ l, n ≤ 4611686018427387903) → runL rtakesStep (p, encNs l ++ r) (List.replicate l.length ()) = .inl (p ++ l.map fun (n : Nat) => (n : Int), r)
  | [], p, r, _ => by simp [runL, encNs]
  | n :: l, p, r, h => by
    have e : encNs (n :: l) ++ r = encN n ++ (encNs l ++ r) := by simp [encNs]
    have ht := takeR_enc n (h n (by simp)) (encNs l ++ r)
    rw [List.length_cons, List.replicate_succ, e]
    simp only [runL, rtakesStep, ht, if_true]
    have := takes_enc l (p ++ [(n : Int)]) r fun m hm => h m (by simp [hm])
    rw [this]
    simp

theorem takesR_enc (l : List Nat) (r : List UInt8) (h : ∀ n ∈ l, n ≤ 4611686018427387903) : takesR (encNs l ++ r) l.length = (l.map (fun (n : Nat) => (n : Int)), r, 0) := by
  rw [takesR_run, takes_enc l [] r h]
  simp

theorem takes_cut : ∀ (l : List Nat) (p : List Int) (k : Nat), k < (encNs l).length → (∀ n ∈ l, n ≤ 4611686018427387903) → ∃ e, runL rtakesStep (p, (encNs l).take k) (List.replicate l.length ()) = .inr (3, e)
  | [], p, k, hk, _ => by simp [encNs] at hk
  | n :: l, p, k, hk, h => by
    have e : encNs (n :: l) = encN n ++ encNs l := by simp [encNs]
    rw [e] at hk ⊢
    rw [List.length_cons, List.replicate_succ]
    by_cases c : k < (encN n).length
    · have ht := takeR_cut n k c (encNs l)
      refine ⟨(p, (encN n ++ encNs l).take k), ?_⟩
      simp only [runL, rtakesStep, ht]
      rfl
    · have ht : (encN n ++ encNs l).take k = encN n ++ (encNs l).take (k - (encN n).length) := by
        rw [List.take_append, List.take_of_length_le (by omega)]
      have hr := takeR_enc n (h n (by simp)) ((encNs l).take (k - (encN n).length))
      obtain ⟨e, he⟩ := takes_cut l (p ++ [(n : Int)]) (k - (encN n).length) (by rw [List.length_append] at hk; omega) fun m hm => h m (by simp [hm])
      refine ⟨e, ?_⟩
      rw [← he, ht, runL]
      simp only [rtakesStep, hr, if_true]

theorem takesR_cut (l : List Nat) (k : Nat) (hk : k < (encNs l).length) (h : ∀ n ∈ l, n ≤ 4611686018427387903) : takesR ((encNs l).take k) l.length = ([], [], 3) := by
  obtain ⟨e, he⟩ := takes_cut l [] k hk h
  rw [takesR_run, he]

theorem putOf_enc : ∀ (l : List Nat) (s : List UInt8), (∀ n ∈ l, n ≤ 4611686018427387903) → putOf s (l.map fun (n : Nat) => (n : Int)) = s ++ encNs l
  | [], s, _ => by simp [putOf, runL, encNs]
  | n :: l, s, h => by
    have hn : numsOk (n : Int) = true := by
      have := h n (by simp)
      simp only [numsOk, decide_eq_true_eq]
      omega
    have := putOf_enc l (s ++ encN n) fun m hm => h m (by simp [hm])
    simp only [putOf] at this
    simp only [putOf, List.map_cons, runL, putStep, hn, if_true, Int.toNat_natCast]
    rw [this]
    simp [encNs]

def encT (l : List (List UInt8)) : List UInt8 := l.flatMap fun w => encN w.length ++ w

theorem txtOf_enc : ∀ (l : List (List UInt8)) (s : List UInt8), txtOf s l = s ++ encT l
  | [], s => by simp [txtOf, encT]
  | w :: l, s => by
    have := txtOf_enc l (txtStep s w)
    simp only [txtOf, List.foldl_cons] at this ⊢
    rw [this]
    simp [txtStep, encT]

theorem encNs_pos (l : List Nat) (h : l ≠ []) : 0 < (encNs l).length := by
  cases l with
  | nil => exact absurd rfl h
  | cons n l => simp only [encNs, List.flatMap_cons, List.length_append, enc_length]; omega

end Go.Proofs.Ytecjbeljchbihaa
