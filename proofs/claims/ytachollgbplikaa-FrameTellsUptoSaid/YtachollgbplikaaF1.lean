/- Plain laws of functions: nums.Put, hash.Sum, frame.sum, slices.Concat. -/
import Derived.Test.YtachollgbplikaaL4
import Derived.Test.YtachollgbplikaaC1
import Derived.Test.YtachollgbplikaaY3
set_option linter.all false
set_option linter.unusedSimpArgs false
namespace Go.Proofs.Ytachollgbplikaa

theorem put_loop (n : List Int) (s10 : Int × List UInt8) : ∀ (k x : Nat) (s : List UInt8), x < 9223372036854775808 → (encN x).length ≤ k → s.length + k < 1000000000000 →
    ∃ (y : Nat) (s' : List UInt8), (∀ j, k ≤ j → loopX (nums_Put_L1_s n s10) j ((x : Int), s) = some ((y : Int), s')) ∧ y < 128 ∧ s' ++ [UInt8.ofNat y] = s ++ encN x ∧ s'.length + 1 ≤ s.length + k
  | 0, x, s, _, h, _ => by have := encN_pos x; omega
  | k + 1, x, s, hx, h, hs => by
    by_cases c : x < 128
    · refine ⟨x, s, fun j hj => ?_, c, by rw [encN_small c], by omega⟩
      obtain ⟨j, rfl⟩ : ∃ i, j = i + 1 := ⟨j - 1, by omega⟩
      have e : nums_Put_L1_s n s10 ((x : Int), s) = some (.inr ((x : Int), s)) := by
        unfold nums_Put_L1_s
        rw [dec_f (by simp only; omega), cond_false]
      simp only [loopX, e]
    · have hl : (encN (x / 128)).length ≤ k := by rw [encN_big c] at h; simpa using h
      obtain ⟨y, s', h1, h2, h3, h4⟩ := put_loop n s10 k (x / 128) (s ++ [UInt8.ofNat (x % 128 + 128)]) (by omega) hl (by simp; omega)
      refine ⟨y, s', fun j hj => ?_, h2, by rw [h3, enc_split x c], by simp at h4; omega⟩
      obtain ⟨j, rfl⟩ : ∃ i, j = i + 1 := ⟨j - 1, by omega⟩
      have e : nums_Put_L1_s n s10 ((x : Int), s) = some (.inl (((x / 128 : Nat) : Int), s ++ [UInt8.ofNat (x % 128 + 128)])) := by
        unfold nums_Put_L1_s
        rw [dec_t (by simp only; omega), cond_true]
        simp only [put_byte hx, shr7]
        rw [gd_fits1 (by simp; omega)]
      simp only [loopX, e]
      exact h1 j (by omega)

theorem put_plain (b : List UInt8) (l : List Int) (h : b.length + 10 * l.length < 1000000000) : nums_Put b l = some (putOf b l) := by
  unfold nums_Put
  rw [gd_fits1 (by omega)]
  have key : ∃ e, nums_Put_L2 l (0, b) = some e ∧ e = (if l.all mayN then .inr (b ++ encI l) else .inl ()) := by
    refine loopX_inv (fun (s : Int × List UInt8) => l.length - s.1.toNat) (fun (s : Int × List UInt8) => ∃ i : Nat, s.1 = (i : Int) ∧ i ≤ l.length ∧ (∀ x ∈ l.take i, mayN x = true) ∧ s.2 = b ++ encI (l.take i)) _ ?_ KK (0, b) ⟨0, rfl, by omega, by simp, by simp [encI]⟩ (by have := KK_big; simp only; omega)
    rintro ⟨j, s⟩ ⟨i, rfl, h1, h2, rfl⟩
    have hle := encI_le _ h2
    rw [List.length_take] at hle
    simp only [nums_Put_L2_s]
    by_cases hi : i < l.length
    · rw [dec_t (by omega), cond_true, getI_at hi, Option.bind_some]
      by_cases hx : mayN l[i] = true
      · left
        have hx' := hx
        simp only [mayN, decide_eq_true_eq] at hx'
        have e0 : ∀ s, nums_Put_J0 l[i] s l = some (.inr ()) := fun s => by
          unfold nums_Put_J0
          rw [dec_f (by omega), cond_false, dec_f (by omega), cond_false]
        obtain ⟨x, hxe⟩ : ∃ x : Nat, l[i] = x := ⟨l[i].toNat, by omega⟩
        have h9 := encN_le9 (x := x) (by omega)
        obtain ⟨y, s', q1, q2, q3, q4⟩ := put_loop l ((i : Int), b ++ encI (l.take i)) 9 x (b ++ encI (l.take i)) (by omega) h9 (by simp; omega)
        have q1' := q1 KK (by decide)
        rw [e0, Option.bind_some, hxe]
        simp only [isL, cond_false, nums_Put_L1, q1', Option.bind_some]
        have q5 : s' ++ [u8w (y : Int)] = b ++ encI (l.take (i + 1)) := by
          rw [u8w_nat (by omega), q3, List.take_succ_eq_append_getElem hi, encI_snoc, hxe]
          simp
        rw [gd_fits1 (by simp at q4 ⊢; omega), q5]
        refine ⟨_, rfl, ⟨i + 1, by rw [wrap_id (by omega) (by omega)]; simp, by omega, ?_, rfl⟩, by rw [wrap_id (by omega) (by omega)]; omega⟩
        rw [List.take_succ_eq_append_getElem hi]
        intro y hy
        rcases List.mem_append.1 hy with hy | hy
        · exact h2 y hy
        · rw [List.mem_singleton.1 hy]; exact hx
      · right
        rw [if_neg (by simp [all_take l hi (by simpa using hx)])]
        have e0 : nums_Put_J0 l[i] ((i : Int), b ++ encI (l.take i)) l = some (.inl ()) := by
          unfold nums_Put_J0
          simp only [mayN, decide_eq_true_eq] at hx
          by_cases c : l[i] < 0
          · rw [dec_t c, cond_true]
          · rw [dec_f c, cond_false, dec_t (by omega), cond_true]
        rw [e0, Option.bind_some]
        exact ⟨_, rfl, rfl⟩
    · right
      rw [dec_f (by omega), cond_false]
      rw [List.take_of_length_le (by omega)] at h2 ⊢
      rw [if_pos (List.all_eq_true.2 h2)]
      exact ⟨_, rfl, rfl⟩
  obtain ⟨e, e1, e2⟩ := key
  rw [e1, Option.bind_some, e2]
  unfold putOf
  split <;> rfl

theorem sum_inner (x8 : List UInt8) (parts : List (List UInt8)) (s7 : Int × Int) (h : x8.length < 1000000000000) (a : Int) : hash_Sum_L0 x8 parts s7 (a, 0) = some (sumS a x8) := by
  refine loop_run (fun i => (sumS a (x8.take i), (i : Int))) x8.length _ (fun i hi => ?_) ?_ h
  · unfold hash_Sum_L0_s
    simp only
    rw [dec_t (by omega), cond_true, getI_at hi, Option.bind_some, wrap_id (by omega) (by omega), wrapU_id (x := (x8[i].toNat : Int)) (by omega) (by have := (x8[i]).toNat_lt; omega), List.take_succ_eq_append_getElem hi]
    simp only [sumS, List.foldl_append, List.foldl_cons, List.foldl_nil, fstep, succ_cast]
  · unfold hash_Sum_L0_s
    simp only
    rw [dec_f (by omega), cond_false, List.take_length]

theorem sum_plain (parts : List (List UInt8)) (h : parts.length < 1000000000000) (h2 : ∀ s ∈ parts, s.length < 1000000000000) : hash_Sum parts = some (sumOf parts) := by
  unfold hash_Sum
  have : hash_Sum_L1 parts (14695981039346656037, 0) = some (sumOf parts) := by
    refine loop_run (fun i => (sumP 14695981039346656037 (parts.take i), (i : Int))) parts.length _ (fun i hi => ?_) ?_ h
    · unfold hash_Sum_L1_s
      simp only
      have hs := h2 parts[i] (List.getElem_mem _)
      rw [dec_t (by omega), cond_true, getI_at hi, Option.bind_some, gd_true (dec_t (by omega)), sum_inner _ _ _ hs, Option.bind_some, wrap_id (by omega) (by omega), List.take_succ_eq_append_getElem hi]
      simp only [sumP, List.foldl_append, List.foldl_cons, List.foldl_nil, fstep, succ_cast]
    · unfold hash_Sum_L1_s
      simp only
      rw [dec_f (by omega), cond_false, List.take_length]
      rfl
  rw [this, Option.bind_some]

theorem e8_at (h k : Nat) (hk : k < 8) (hh : h < 18446744073709551616) : (shrI .u64 (h : Int) (IntKind.i64.wrap (8 * IntKind.i64.wrap (7 - (k : Int))))).bind (fun x => some (u8w x)) = some (UInt8.ofNat (h / 256 ^ (7 - k) % 256)) := by
  rw [wrap_id (x := 7 - (k : Int)) (by omega) (by omega), wrap_id (by omega) (by omega)]
  unfold shrI
  rw [if_neg (by omega), Option.bind_some, u8w_mod]
  have e1 : min (8 * (7 - (k : Int))).toNat (IntKind.bits .u64) = 8 * (7 - k) := by
    show min (8 * (7 - (k : Int))).toNat 64 = 8 * (7 - k)
    omega
  have e2 : (2 : Int) ^ (8 * (7 - k)) = ((256 ^ (7 - k) : Nat) : Int) := by
    rw [Int.pow_mul]
    norm_cast
  rw [e1, e2, Int.fdiv_eq_ediv_of_nonneg _ (Int.natCast_nonneg _)]
  congr 1

theorem fsum_plain (s : List UInt8) (h : s.length < 1000000000000) : frame_sum s = some (sum8 s) := by
  unfold frame_sum
  rw [sum_plain [s] (by simp) (by simpa using h), Option.bind_some]
  have hr := sumOf_range [s]
  obtain ⟨v, hv⟩ : ∃ v : Nat, sumOf [s] = v := ⟨(sumOf [s]).toNat, by omega⟩
  have : frame_sum_L0 (sumOf [s]) (0, []) = some (sum8 s) := by
    unfold sum8
    rw [hv, Int.toNat_natCast]
    refine loop_run (fun i => ((i : Int), (e8 v).take i)) 8 _ (fun i hi => ?_) ?_ (by omega)
    · have h8 := e8_at v i hi (by omega)
      obtain ⟨y, hy, hy2⟩ := Option.bind_eq_some_iff.1 h8
      have hl : i < (e8 v).length := by rw [e8_len]; exact hi
      unfold frame_sum_L0_s
      simp only
      rw [dec_t (by omega), cond_true, hy, Option.bind_some, gd_fits1 (by simp; omega), wrap_id (by omega) (by omega), List.take_succ_eq_append_getElem hl, Option.some.inj hy2]
      simp only [succ_cast, e8, List.getElem_map, List.getElem_range]
    · unfold frame_sum_L0_s
      simp only
      rw [dec_f (by omega), cond_false, List.take_of_length_le (by rw [e8_len]; omega)]
  rw [this, Option.bind_some]

end Go.Proofs.Ytachollgbplikaa
