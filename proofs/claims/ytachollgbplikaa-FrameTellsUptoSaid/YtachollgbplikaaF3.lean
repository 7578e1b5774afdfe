/- Plain laws of functions: the document's numbers, sums, records. -/
import Derived.Test.YtachollgbplikaaF2
import Derived.Test.YtachollgbplikaaY3
set_option linter.all false
set_option linter.unusedSimpArgs false
namespace Go.Proofs.Ytachollgbplikaa

theorem rput_byte {x : Nat} (h : x < 9223372036854775808) : u8w (IntKind.i64.wrap (128 + Int.tmod (x : Int) 128)) = UInt8.ofNat (x % 128 + 128) := by
  rw [Int.tmod_eq_emod_of_nonneg (by omega), wrap_id (by omega) (by omega)]
  have : (128 : Int) + (x : Int) % 128 = ((x % 128 + 128 : Nat) : Int) := by omega
  rw [this, u8w_nat (by omega)]
theorem rput_next {x : Nat} (h : x < 9223372036854775808) : IntKind.i64.wrap (Int.tdiv (x : Int) 128) = ((x / 128 : Nat) : Int) := by
  rw [Int.tdiv_eq_ediv_of_nonneg (by omega), wrap_id (by omega) (by omega)]
  omega
theorem may_plain (x : Int) : osmosisref1_May x = some (mayN x) := by
  unfold osmosisref1_May mayN
  by_cases h : 0 ≤ x
  · rw [dec_t (by omega), cond_true]
    congr 1
    rw [decide_eq_decide]
    omega
  · rw [dec_f (by omega), cond_false, dec_f (by omega)]

theorem rput_loop (n : List Int) (s10 : Int × List UInt8) : ∀ (k x : Nat) (s : List UInt8), x < 9223372036854775808 → (encN x).length ≤ k → s.length + k < 1000000000000 →
    ∃ (y : Nat) (s' : List UInt8), (∀ j, k ≤ j → loopX (osmosisref1_Put_3_L0_s n s10) j ((x : Int), s) = some ((y : Int), s')) ∧ y < 128 ∧ s' ++ [UInt8.ofNat y] = s ++ encN x ∧ s'.length + 1 ≤ s.length + k
  | 0, x, s, _, h, _ => by have := encN_pos x; omega
  | k + 1, x, s, hx, h, hs => by
    by_cases c : x < 128
    · refine ⟨x, s, fun j hj => ?_, c, by rw [encN_small c], by omega⟩
      obtain ⟨j, rfl⟩ : ∃ i, j = i + 1 := ⟨j - 1, by omega⟩
      have e : osmosisref1_Put_3_L0_s n s10 ((x : Int), s) = some (.inr ((x : Int), s)) := by
        unfold osmosisref1_Put_3_L0_s
        rw [dec_f (by simp only; omega), cond_false]
      simp only [loopX, e]
    · have hl : (encN (x / 128)).length ≤ k := by rw [encN_big c] at h; simpa using h
      obtain ⟨y, s', h1, h2, h3, h4⟩ := rput_loop n s10 k (x / 128) (s ++ [UInt8.ofNat (x % 128 + 128)]) (by omega) hl (by simp; omega)
      refine ⟨y, s', fun j hj => ?_, h2, by rw [h3, enc_split x c], by simp at h4; omega⟩
      obtain ⟨j, rfl⟩ : ∃ i, j = i + 1 := ⟨j - 1, by omega⟩
      have e : osmosisref1_Put_3_L0_s n s10 ((x : Int), s) = some (.inl (((x / 128 : Nat) : Int), s ++ [UInt8.ofNat (x % 128 + 128)])) := by
        unfold osmosisref1_Put_3_L0_s
        rw [dec_t (by simp only; omega), cond_true]
        simp only [rput_byte hx, rput_next hx]
        rw [gd_fits1 (by simp; omega)]
      simp only [loopX, e]
      exact h1 j (by omega)

theorem rput_plain (b : List UInt8) (l : List Int) (h : b.length + 10 * l.length < 1000000000) : osmosisref1_Put_3 b l = some (putOf b l) := by
  unfold osmosisref1_Put_3
  rw [gd_fits1 (by omega)]
  have key : ∃ e, osmosisref1_Put_3_L1 l (0, b) = some e ∧ e = (if l.all mayN then .inr (b ++ encI l) else .inl ()) := by
    refine loopX_inv (fun (s : Int × List UInt8) => l.length - s.1.toNat) (fun (s : Int × List UInt8) => ∃ i : Nat, s.1 = (i : Int) ∧ i ≤ l.length ∧ (∀ x ∈ l.take i, mayN x = true) ∧ s.2 = b ++ encI (l.take i)) _ ?_ KK (0, b) ⟨0, rfl, by omega, by simp, by simp [encI]⟩ (by have := KK_big; simp only; omega)
    rintro ⟨j, s⟩ ⟨i, rfl, h1, h2, rfl⟩
    have hle := encI_le _ h2
    rw [List.length_take] at hle
    simp only [osmosisref1_Put_3_L1_s]
    by_cases hi : i < l.length
    · rw [dec_t (by omega), cond_true, getI_at hi, Option.bind_some, may_plain, Option.bind_some]
      by_cases hx : mayN l[i] = true
      · left
        have hx' := hx
        simp only [mayN, decide_eq_true_eq] at hx'
        obtain ⟨x, hxe⟩ : ∃ x : Nat, l[i] = x := ⟨l[i].toNat, by omega⟩
        have h9 := encN_le9 (x := x) (by omega)
        obtain ⟨y, s', q1, q2, q3, q4⟩ := rput_loop l ((i : Int), b ++ encI (l.take i)) 9 x (b ++ encI (l.take i)) (by omega) h9 (by simp; omega)
        have q1' := q1 KK (by decide)
        rw [hx]
        simp only [Bool.not_true, cond_false, osmosisref1_Put_3_L0, hxe, q1', Option.bind_some]
        have q5 : s' ++ [u8w (y : Int)] = b ++ encI (l.take (i + 1)) := by
          rw [u8w_nat (by omega), q3, List.take_succ_eq_append_getElem hi, encI_snoc, hxe]
          simp
        rw [gd_fits1 (by simp at q4 ⊢; omega), q5]
        refine ⟨_, rfl, ⟨i + 1, by rw [wrap_id (by omega) (by omega)]; simp, by omega, ?_, rfl⟩, by rw [wrap_id (by omega) (by omega)]; omega⟩
        rw [List.take_succ_eq_append_getElem hi]
        intro y hy
        rcases List.mem_append.1 hy with hy | hy
        · exact h2 y hy
        · rw [List.mem_singleton.1 hy]; exact hx
      · right
        have hx' : mayN l[i] = false := by simpa using hx
        rw [if_neg (by simp [all_take l hi hx']), hx']
        exact ⟨_, rfl, rfl⟩
    · right
      rw [dec_f (by omega), cond_false]
      rw [List.take_of_length_le (by omega)] at h2 ⊢
      rw [if_pos (List.all_eq_true.2 h2)]
      exact ⟨_, rfl, rfl⟩
  obtain ⟨e, e1, e2⟩ := key
  rw [e1, Option.bind_some, e2]
  unfold putOf
  split <;> rfl

theorem step_plain (h c : Int) : osmosisref1_step h c = some (fstep h c) := rfl

theorem rsum_inner (parts : List (List UInt8)) (a : Int) (i : Nat) (hi : i < parts.length) (x : Int) (h : parts[i].length < 1000000000000) : osmosisref1_Sum_L0 parts (x, (i : Int)) (a, 0) = some (sumS a parts[i]) := by
  refine loop_run (fun j => (sumS a (parts[i].take j), (j : Int))) parts[i].length _ (fun j hj => ?_) ?_ h
  · unfold osmosisref1_Sum_L0_s
    simp only
    rw [getI_at hi, Option.bind_some, dec_t (by omega), cond_true, Option.bind_some, getI_at hj, Option.bind_some, wrap_id (by omega) (by omega), wrapU_id (x := (parts[i][j].toNat : Int)) (by omega) (by have := (parts[i][j]).toNat_lt; omega), List.take_succ_eq_append_getElem hj]
    simp only [step_plain, Option.bind_some, sumS, List.foldl_append, List.foldl_cons, List.foldl_nil, fstep, succ_cast]
  · unfold osmosisref1_Sum_L0_s
    simp only
    rw [getI_at hi, Option.bind_some, dec_f (by omega), cond_false, List.take_length]

theorem rsum_plain (parts : List (List UInt8)) (h : parts.length < 1000000000000) (h2 : ∀ s ∈ parts, s.length < 1000000000000) : osmosisref1_Sum parts = some (sumOf parts) := by
  unfold osmosisref1_Sum
  have : osmosisref1_Sum_L1 parts (14695981039346656037, 0) = some (sumOf parts) := by
    refine loop_run (fun i => (sumP 14695981039346656037 (parts.take i), (i : Int))) parts.length _ (fun i hi => ?_) ?_ h
    · unfold osmosisref1_Sum_L1_s
      simp only
      have hs := h2 parts[i] (List.getElem_mem _)
      rw [dec_t (by omega), cond_true, rsum_inner _ _ i hi _ hs, Option.bind_some, step_plain, Option.bind_some, wrap_id (by omega) (by omega), List.take_succ_eq_append_getElem hi]
      simp only [sumP, List.foldl_append, List.foldl_cons, List.foldl_nil, fstep, succ_cast]
    · unfold osmosisref1_Sum_L1_s
      simp only
      rw [dec_f (by omega), cond_false, List.take_length]
      rfl
  rw [this, Option.bind_some]

theorem eight_plain (h : Nat) (hh : h < 18446744073709551616) : osmosisref1_eight (h : Int) = some (e8 h) := by
  unfold osmosisref1_eight
  rw [gd_true (by decide)]
  have : osmosisref1_eight_L0 ((h : Int), 7, List.replicate 8 0) = some (e8 h) := by
    have e0 : ((h : Int), (7 : Int), List.replicate 8 (0 : UInt8)) = (((h / 256 ^ 0 : Nat) : Int), (7 : Int) - ((0 : Nat) : Int), List.replicate (8 - 0) 0 ++ (e8 h).drop (8 - 0)) := by
      rw [Nat.pow_zero, Nat.div_one, List.drop_of_length_le (by rw [e8_len]; omega)]
      simp
    rw [e0]
    refine loop_run (fun t => (((h / 256 ^ t : Nat) : Int), (7 : Int) - (t : Int), List.replicate (8 - t) 0 ++ (e8 h).drop (8 - t))) 8 _ (fun t ht => ?_) ?_ (by omega)
    · unfold osmosisref1_eight_L0_s
      simp only
      have e1 : (7 : Int) - (t : Int) = ((7 - t : Nat) : Int) := by omega
      have hl : 7 - t < (e8 h).length := by rw [e8_len]; omega
      have e2 : (e8 h)[7 - t] = UInt8.ofNat (h / 256 ^ t % 256) := by
        simp only [e8, List.getElem_map, List.getElem_range]
        rw [show 7 - (7 - t) = t from by omega]
      have hle : h / 256 ^ t ≤ h := Nat.div_le_self _ _
      have e4 : IntKind.u64.wrap (Int.tdiv ((h / 256 ^ t : Nat) : Int) 256) = ((h / 256 ^ (t + 1) : Nat) : Int) := by
        rw [Nat.pow_succ, ← Nat.div_div_eq_div_mul]
        generalize h / 256 ^ t = q at *
        rw [Int.tdiv_eq_ediv_of_nonneg (by omega), wrapU_id (by omega) (by omega)]
        omega
      have e3 : u8w (Int.tmod ((h / 256 ^ t : Nat) : Int) 256) = UInt8.ofNat (h / 256 ^ t % 256) := by
        generalize h / 256 ^ t = q at *
        rw [Int.tmod_eq_emod_of_nonneg (by omega), show ((q : Int) % 256) = ((q % 256 : Nat) : Int) from by omega, u8w_nat (by omega)]
      have e5 : (List.replicate (8 - t) (0 : UInt8) ++ (e8 h).drop (8 - t)).set (7 - t) (UInt8.ofNat (h / 256 ^ t % 256)) = List.replicate (8 - (t + 1)) 0 ++ (e8 h).drop (8 - (t + 1)) := by
        have a1 : 8 - (t + 1) = 7 - t := by omega
        have a2 : 8 - t = (7 - t) + 1 := by omega
        rw [a1, List.drop_eq_getElem_cons hl, e2, a2, List.replicate_succ', List.append_assoc, List.set_append_right _ _ (by simp)]
        simp
      rw [dec_t (by omega), cond_true, e1, getI_at (by simp [e8_len]; omega), Option.bind_some, e3, e4, Int.toNat_natCast, e5, wrap_id (by omega) (by omega)]
      congr 4
      omega
    · unfold osmosisref1_eight_L0_s
      simp only
      rw [dec_f (by omega), cond_false]
      simp
  rw [this, Option.bind_some]

theorem rsum8_plain (s : List UInt8) : osmosisref1_eight (sumOf [s]) = some (sum8 s) := by
  have hr := sumOf_range [s]
  obtain ⟨v, hv⟩ : ∃ v : Nat, sumOf [s] = v := ⟨(sumOf [s]).toNat, by omega⟩
  unfold sum8
  rw [hv, eight_plain v (by omega), Int.toNat_natCast]

theorem rframe_plain (b : List UInt8) (l : List (List UInt8)) (h : b.length + (encF l).length < 100000000) : osmosisref1_Frame b l = some (b ++ encF l) := by
  have hl := encF_ge l
  unfold osmosisref1_Frame
  rw [gd_fits1 (by omega)]
  have : osmosisref1_Frame_L0 l (0, b) = some (b ++ encF l) := by
    have e0 : ((0 : Int), b) = (((0 : Nat) : Int), b ++ encF (l.take 0)) := by simp [encF]
    rw [e0]
    refine loop_run (fun i => ((i : Int), b ++ encF (l.take i))) l.length _ (fun i hi => ?_) ?_ (by omega)
    · have h1 := encF_take l (i + 1)
      have h2 : encF (l.take (i + 1)) = encF (l.take i) ++ recF l[i] := by rw [List.take_succ_eq_append_getElem hi, encF_snoc]
      have h3 := recF_len l[i]
      have h4 : (encF (l.take (i + 1))).length = (encF (l.take i)).length + (recF l[i]).length := by rw [h2, List.length_append]
      have h8 := sum8_len l[i]
      unfold osmosisref1_Frame_L0_s
      simp only
      rw [dec_t (by omega), cond_true, getI_at hi, Option.bind_some, rput_plain _ _ (by simp; omega), Option.bind_some, Option.bind_some, rsum_plain _ (by simp) (by simp; omega), Option.bind_some, rsum8_plain, Option.bind_some, putOf_one _ (by omega)]
      have h5 : b ++ encF (l.take i) ++ encN l[i].length ++ sum8 l[i] ++ l[i] = b ++ encF (l.take (i + 1)) := by
        rw [h2]
        simp [recF]
      rw [gd_fits1 (by simp; omega), Option.bind_some, h5, gd_fits1 (by rw [List.length_append]; omega), wrap_id (by omega) (by omega), succ_cast]
    · unfold osmosisref1_Frame_L0_s
      simp only
      rw [dec_f (by omega), cond_false, List.take_length]
  rw [this, Option.bind_some]

def lateE (b : List UInt8) (i : Nat) : Int := match endsAt (b.drop i) with
  | some _ => 2
  | none => 3

theorem late_plain (b : List UInt8) (i : Nat) (hi : i ≤ b.length) (h : b.length < 1000000000000) : osmosisref1_late b (i : Int) = some (lateE b i) := by
  unfold osmosisref1_late
  have key : ∃ x, osmosisref1_late_L0 b (i : Int) = some x ∧ (cond (isL x) (some 2) (some 3) : Option Int) = some (lateE b i) := by
    refine loopX_inv (fun s : Int => b.length - s.toNat) (fun s => ∃ j : Nat, s = (j : Int) ∧ j ≤ b.length ∧ lateE b i = lateE b j) _ ?_ KK (i : Int) ⟨i, rfl, hi, rfl⟩ (by have := KK_big; simp; omega)
    rintro s ⟨j, rfl, h1, h2⟩
    simp only [osmosisref1_late_L0_s]
    by_cases hj : j < b.length
    · have hd : b.drop j = b[j] :: b.drop (j + 1) := List.drop_eq_getElem_cons hj
      rw [dec_t (by omega), cond_true, getI_at hj, Option.bind_some]
      by_cases hc : (b[j]).toNat < 128
      · right
        rw [dec_t (by omega), cond_true]
        refine ⟨_, rfl, ?_⟩
        rw [h2]
        unfold lateE
        rw [hd, endsAt, if_pos hc]
        rfl
      · left
        rw [dec_f (by omega), cond_false, wrap_id (by omega) (by omega)]
        refine ⟨_, rfl, ⟨j + 1, by omega, by omega, ?_⟩, by omega⟩
        rw [h2]
        unfold lateE
        rw [hd, endsAt, if_neg hc]
        cases endsAt (b.drop (j + 1)) <;> rfl
    · right
      rw [dec_f (by omega), cond_false]
      refine ⟨_, rfl, ?_⟩
      rw [h2]
      unfold lateE
      rw [List.drop_of_length_le (by omega), endsAt]
      rfl
  obtain ⟨x, e1, e2⟩ := key
  rw [e1, Option.bind_some, e2]

theorem TakeOf_bad {b : List UInt8} {e : Int} (h : takeOf b = (0, 0, e)) (he : e ≠ 0) : TakeOf b = (0, [], e) := by
  unfold TakeOf
  rw [h]
  simp [he]

/-- What is too great is told at its last byte. -/
theorem late_is (b : List UInt8) (i : Nat) (hi : i ≤ b.length) (hs : ∀ j (h : j < i) (h' : j < b.length), ¬ (b[j]).toNat < 128)
    (hb : ∀ j, endsAt b = some j → 9 ≤ j ∨ 4611686018427387903 < valOf (b.take (j + 1))) : TakeOf b = (0, [], lateE b i) := by
  have e := endsAt_drop b i hi hs
  unfold lateE
  cases hd : endsAt (b.drop i) with
  | none =>
    rw [hd] at e
    refine TakeOf_bad (e := 3) ?_ (by decide)
    unfold takeOf
    rw [e]
    rfl
  | some k =>
    rw [hd] at e
    refine TakeOf_bad (e := 2) ?_ (by decide)
    have := hb _ e
    unfold takeOf
    rw [e]
    show takeAt b (k + i) = (0, 0, 2)
    unfold takeAt
    split
    · rfl
    · rename_i q
      rcases this with w | w
      · exact absurd (.inl w) q
      · rw [if_pos w]

theorem valOf_8 {b : List UInt8} (h : 8 < b.length) : valOf (b.take 9) = valOf (b.take 8) + 72057594037927936 * ((b[8]).toNat % 128) ∧ valOf (b.take 8) < 72057594037927936 := by
  have e : b.take 9 = b.take 8 ++ [b[8]] := List.take_succ_eq_append_getElem h
  have hl : (b.take 8).length = 8 := by rw [List.length_take]; omega
  have := valOf_lt (b.take 8)
  rw [hl] at this
  refine ⟨?_, this⟩
  rw [e, valOf_app, hl]
  simp [valOf]

theorem shl_plain (m i : Nat) (hm : m < 128) (hi : i ≤ 8) (h8 : i = 8 → m < 64) : shlI .i64 (m : Int) (IntKind.u64.wrap (IntKind.i64.wrap (7 * (i : Int)))) = some ((m * 128 ^ i : Nat) : Int) := by
  rw [wrap_id (by omega) (by omega), wrapU_id (by omega) (by omega)]
  unfold shlI
  rw [if_neg (by omega)]
  have e1 : min (7 * (i : Int)).toNat (IntKind.bits .i64) = 7 * i := by
    show min (7 * (i : Int)).toNat 64 = 7 * i
    omega
  have e2 : (m : Int) * 2 ^ (7 * i) = ((m * 128 ^ i : Nat) : Int) := by
    rw [Int.pow_mul]
    norm_cast
  have e3 : m * 128 ^ i < 9223372036854775808 := by
    rcases Nat.lt_or_ge i 8 with q | q
    · have := Nat.pow_le_pow_right (n := 128) (by omega) (show i ≤ 7 by omega)
      have h2 := Nat.mul_le_mul (show m ≤ 127 by omega) this
      exact Nat.lt_of_le_of_lt h2 (by decide)
    · obtain rfl : i = 8 := by omega
      have := h8 rfl
      rw [show (128 : Nat) ^ 8 = 72057594037927936 from by decide]
      omega
  rw [e1, e2, wrap_id (by omega) (by omega)]

theorem rtake_plain (b : List UInt8) (h : b.length < 1000000000) : osmosisref1_Take b = some (TakeOf b) := by
  unfold osmosisref1_Take
  have key : ∃ x, osmosisref1_Take_L3 b (0, 0) = some x ∧ (cond (isL x) (some ((getL x).1, (getL x).2.2, (getL x).2.1)) (some (0, [], 3))) = some (TakeOf b) := by
    refine loopX_inv (fun (s : Int × Int) => b.length - s.2.toNat) (fun (s : Int × Int) => ∃ i : Nat, s.2 = (i : Int) ∧ i ≤ b.length ∧ i ≤ 9 ∧ (∀ j (h : j < i) (h' : j < b.length), ¬ (b[j]).toNat < 128) ∧ s.1 = ((valOf (b.take i) : Nat) : Int)) _ ?_ KK (0, 0) ⟨0, rfl, by omega, by omega, fun j h => by omega, by simp [valOf]⟩ (by have := KK_big; simp only; omega)
    rintro ⟨v, i'⟩ ⟨i, rfl, h1, h9, hs, rfl⟩
    simp only [osmosisref1_Take_L3_s]
    by_cases hi : i < b.length
    case neg =>
      right
      rw [dec_f (by omega), cond_false]
      refine ⟨_, rfl, ?_⟩
      have : i = b.length := by omega
      subst this
      have en : endsAt b = none := by
        rw [endsAt_drop b _ (Nat.le_refl _) hs, List.drop_length]
        rfl
      rw [TakeOf_bad (e := 3) (by unfold takeOf; rw [en]) (by decide)]
      rfl
    rw [dec_t (by omega), cond_true, getI_at hi, Option.bind_some]
    generalize hc : b[i] = c
    have hc2 := c.toNat_lt
    have w0 : IntKind.i64.wrap (c.toNat : Int) = (c.toNat : Int) := wrap_id (by omega) (by omega)
    have m0 : Int.tmod (c.toNat : Int) 128 = ((c.toNat % 128 : Nat) : Int) := by rw [Int.tmod_eq_emod_of_nonneg (by omega)]; omega
    have hd : b.drop i = c :: b.drop (i + 1) := by rw [List.drop_eq_getElem_cons hi, hc]
    by_cases late : i = 9 ∨ (i = 8 ∧ 64 ≤ c.toNat % 128)
    · right
      have j0 : osmosisref1_Take_J0 (((valOf (b.take i) : Nat) : Int), (i : Int)) c b = some true := by
        unfold osmosisref1_Take_J0
        simp only [w0, m0]
        rcases late with q | ⟨q, q2⟩
        · rw [beq_t (by omega), cond_true]
        · rw [beq_f (by omega), cond_false, beq_t (by omega), cond_true, dec_t (by omega)]
      have j1 : osmosisref1_Take_J1 (((valOf (b.take i) : Nat) : Int), (i : Int)) c b = some (.inl (lateE b i)) := by
        unfold osmosisref1_Take_J1
        rw [j0, Option.bind_some, cond_true]
        simp only
        rw [late_plain b i (by omega) (by omega), Option.bind_some]
      rw [j1, Option.bind_some]
      refine ⟨_, rfl, ?_⟩
      simp only [isL, getL, cond_true]
      rw [late_is b i (by omega) hs fun j hj => ?_]
      rcases Nat.lt_or_ge j 9 with q | q
      · right
        have hji : i ≤ j := by
          rcases Nat.lt_or_ge j i with w | w
          · obtain ⟨_, u1, u2⟩ := endsAt_spec hj
            exact absurd u2 (hs j w u1)
          · exact w
        rcases late with w | ⟨w, w2⟩
        · omega
        · subst w
          obtain rfl : j = 8 := by omega
          have := valOf_8 hi
          rw [hc] at this
          show 4611686018427387903 < valOf (b.take 9)
          omega
      · exact .inl q
    · have hi8 : i ≤ 8 := by omega
      have h64 : i = 8 → c.toNat % 128 < 64 := by omega
      have j0 : osmosisref1_Take_J0 (((valOf (b.take i) : Nat) : Int), (i : Int)) c b = some false := by
        unfold osmosisref1_Take_J0
        simp only [w0, m0]
        rw [beq_f (by omega), cond_false]
        by_cases q : i = 8
        · rw [beq_t (by omega), cond_true, dec_f (by omega)]
        · rw [beq_f (by omega), cond_false]
      have j1 : osmosisref1_Take_J1 (((valOf (b.take i) : Nat) : Int), (i : Int)) c b = some (.inr ()) := by
        unfold osmosisref1_Take_J1
        rw [j0, Option.bind_some, cond_false]
      rw [j1, Option.bind_some]
      simp only [isL, cond_false, w0, m0]
      rw [shl_plain _ i (by omega) hi8 h64, Option.bind_some]
      have tk : b.take (i + 1) = b.take i ++ [c] := by rw [List.take_succ_eq_append_getElem hi, hc]
      have hl : (b.take i).length = i := by rw [List.length_take]; omega
      have ev : valOf (b.take (i + 1)) = valOf (b.take i) + c.toNat % 128 * 128 ^ i := by
        rw [tk, valOf_app, hl]
        simp [valOf, Nat.mul_comm]
      have hv : valOf (b.take (i + 1)) ≤ 4611686018427387903 := by
        rcases Nat.lt_or_ge i 8 with q | q
        · have a1 := valOf_lt (b.take (i + 1))
          have a2 : (b.take (i + 1)).length ≤ 8 := by rw [List.length_take]; omega
          have a3 := Nat.pow_le_pow_right (n := 128) (by omega) a2
          have a4 : (128 : Nat) ^ 8 = 72057594037927936 := by decide
          omega
        · obtain rfl : i = 8 := by omega
          have := valOf_8 hi
          rw [hc] at this
          show valOf (b.take 9) ≤ _
          omega
      have ew : IntKind.i64.wrap (((valOf (b.take i) : Nat) : Int) + ((c.toNat % 128 * 128 ^ i : Nat) : Int)) = ((valOf (b.take (i + 1)) : Nat) : Int) := by
        rw [ev] at hv ⊢
        rw [wrap_id (by omega) (by omega)]
        omega
      rw [ew]
      by_cases hc8 : c.toNat < 128
      · right
        have en : endsAt b = some i := by
          rw [endsAt_drop b i h1 hs, hd, endsAt, if_pos hc8]
          simp
        rw [dec_f (by omega), cond_false]
        have ei : b[i]? = some c := by rw [List.getElem?_eq_getElem hi, hc]
        by_cases z : c = 0 ∧ 0 < i
        · have j2 : osmosisref1_Take_J2 c (((valOf (b.take i) : Nat) : Int), (i : Int)) b ((c.toNat % 128 * 128 ^ i : Nat) : Int) = some (.inl ()) := by
            unfold osmosisref1_Take_J2
            simp only [w0]
            rw [beq_t (by rw [z.1]; rfl), cond_true, dec_t (by omega), cond_true]
          rw [j2, Option.bind_some]
          refine ⟨_, rfl, ?_⟩
          rw [TakeOf_bad (e := 2) (by
            unfold takeOf
            rw [en]
            show takeAt b i = _
            unfold takeAt
            rw [if_pos (.inr ⟨z.2, by rw [ei, z.1]⟩)]) (by decide)]
          rfl
        · have j2 : osmosisref1_Take_J2 c (((valOf (b.take i) : Nat) : Int), (i : Int)) b ((c.toNat % 128 * 128 ^ i : Nat) : Int) = some (.inr ()) := by
            unfold osmosisref1_Take_J2
            simp only [w0]
            by_cases q : c = 0
            · rw [beq_t (by rw [q]; rfl), cond_true, dec_f (by
                intro w
                exact z ⟨q, by omega⟩), cond_false]
            · rw [beq_f (fun w => q (UInt8.toNat_inj.1 (by simp; omega))), cond_false]
          rw [j2, Option.bind_some]
          simp only [isL, cond_false]
          rw [wrap_id (by omega) (by omega), succ_cast, slI_from b (i + 1) (by omega), Option.bind_some, gd_fits1 (by simp; omega)]
          refine ⟨_, rfl, ?_⟩
          simp only [isL, getL, cond_true]
          have : takeOf b = (((valOf (b.take (i + 1)) : Nat) : Int), ((i + 1 : Nat) : Int), 0) := by
            unfold takeOf
            rw [en]
            show takeAt b i = _
            unfold takeAt
            rw [if_neg (by
              rintro (q | ⟨q1, q2⟩)
              · omega
              · rw [ei] at q2
                exact z ⟨Option.some.inj q2, q1⟩), if_neg (by omega)]
          unfold TakeOf
          rw [this]
          simp
      · left
        rw [dec_t (by omega), cond_true, wrap_id (by omega) (by omega)]
        refine ⟨_, rfl, ⟨i + 1, by omega, by omega, by omega, fun j hj hj' => ?_, rfl⟩, by simp only; omega⟩
        rcases Nat.lt_or_ge j i with q | q
        · exact hs j q hj'
        · obtain rfl : j = i := by omega
          rw [hc]
          exact hc8
  obtain ⟨x, e1, e2⟩ := key
  rw [e1, Option.bind_some, e2]

theorem rread_loop (b : List UInt8) (h : b.length < 1000000000) : ∀ (k u : Nat) (p : List (List UInt8)), b.length - u < k → u ≤ b.length → p.length ≤ u → loopX (osmosisref1_Frames_L2_s b) k ((u : Int), p) = some (((u + (readR (b.drop u)).2 : Nat) : Int), p ++ (readR (b.drop u)).1)
  | 0, u, p, hk, _, _ => by omega
  | k + 1, u, p, hk, hu, hp => by
    have e : osmosisref1_Frames_L2_s b ((u : Int), p) = match oneOf (b.drop u) with
        | some (r, n) => some (.inl (((u + n : Nat) : Int), p ++ [r]))
        | none => some (.inr ((u : Int), p)) := by
      unfold osmosisref1_Frames_L2_s
      simp only
      have hul : (b.drop u).length = b.length - u := List.length_drop
      rw [slI_from b u hu, Option.bind_some, rtake_plain _ (by rw [hul]; omega), Option.bind_some]
      generalize hx : b.drop u = x at *
      have bad : ∀ t, (t.2.2 : Int) ≠ 0 → osmosisref1_Frames_J1 t b ((u : Int), p) x = some (.inl ()) := fun t ht => by
        unfold osmosisref1_Frames_J1 osmosisref1_Frames_J0
        rw [bne_t ht, cond_true, Option.bind_some, cond_true]
      rcases takeOf_cases x with q | q | ⟨v, n, q, hv, hn1, hn9, hnl⟩
      · rw [TakeOf_bad q (by decide), bad _ (by decide), Option.bind_some]
        unfold oneOf
        rw [q, if_neg (by rintro ⟨w, _⟩; cases w)]
        rfl
      · rw [TakeOf_bad q (by decide), bad _ (by decide), Option.bind_some]
        unfold oneOf
        rw [q, if_neg (by rintro ⟨w, _⟩; cases w)]
        rfl
      · have ht : TakeOf x = ((v : Int), x.drop n, 0) := by unfold TakeOf; rw [q]; simp
        have hV : oneV x = v := by unfold oneV; rw [q]; simp
        have hK : oneK x = n := by unfold oneK; rw [q]; simp
        rw [ht]
        unfold oneOf
        rw [hV, hK, q]
        have w1 : IntKind.i64.wrap (8 + (v : Int)) = ((8 + v : Nat) : Int) := by rw [wrap_id (by omega) (by omega)]; omega
        by_cases c1 : v ≤ 4000
        case neg =>
          rw [if_neg (fun w => c1 w.2.1)]
          unfold osmosisref1_Frames_J1 osmosisref1_Frames_J0
          simp only
          rw [bne_f rfl, cond_false, dec_t (by omega), cond_true, Option.bind_some, cond_true]
          rfl
        by_cases c2 : n + 8 + v ≤ x.length
        case neg =>
          rw [if_neg (fun w => c2 w.2.2.1)]
          unfold osmosisref1_Frames_J1 osmosisref1_Frames_J0
          simp only [w1]
          rw [bne_f rfl, cond_false, dec_f (by omega), cond_false, dec_t (by rw [List.length_drop]; omega), Option.bind_some, cond_true]
          rfl
        have j1 : osmosisref1_Frames_J1 ((v : Int), x.drop n, 0) b ((u : Int), p) x = some (.inr ()) := by
          unfold osmosisref1_Frames_J1 osmosisref1_Frames_J0
          simp only [w1]
          rw [bne_f rfl, cond_false, dec_f (by omega), cond_false, dec_f (by rw [List.length_drop]; omega), Option.bind_some, cond_false]
        rw [j1, Option.bind_some]
        simp only [isL, cond_false, w1]
        have s1 : slI (x.drop n) 8 ((8 + v : Nat) : Int) = some (oneZ x) := by
          have := slI_nat (x.drop n) 8 (8 + v) (by omega) (by rw [List.length_drop]; omega)
          rw [List.drop_drop, Nat.add_sub_cancel_left] at this
          unfold oneZ
          rw [hK, hV]
          exact this
        have s2 : slI (x.drop n) 0 8 = some ((x.drop n).take 8) := slI_to (x.drop n) 8 (by rw [List.length_drop]; omega)
        have hZl : (oneZ x).length ≤ 4000 := by unfold oneZ; rw [List.length_take, hV]; omega
        rw [s1, Option.bind_some, gd_fits1 (by omega), rsum_plain _ (by simp) (by simp; omega), Option.bind_some, rsum8_plain, Option.bind_some, s2, Option.bind_some]
        by_cases c3 : sum8 (oneZ x) = (x.drop n).take 8
        · rw [if_pos ⟨by simp, c1, c2, c3⟩, c3]
          simp only [beq_self_eq_true, Bool.not_true, cond_false]
          rw [gd_fits24 (by simp; omega)]
          have w5 : IntKind.i64.wrap (IntKind.i64.wrap (IntKind.i64.wrap (IntKind.i64.wrap ((u : Int) + (x.length : Int)) - ((x.drop n).length : Int)) + 8) + (v : Int)) = ((u + (n + 8 + v) : Nat) : Int) := by
            rw [List.length_drop, wrap_id (x := (u : Int) + (x.length : Int)) (by omega) (by omega), wrap_id (x := (u : Int) + (x.length : Int) - _) (by omega) (by omega), wrap_id (x := (u : Int) + (x.length : Int) - _ + 8) (by omega) (by omega), wrap_id (by omega) (by omega)]
            omega
          rw [w5]
        · rw [if_neg (fun w => c3 w.2.2.2)]
          have : ((x.drop n).take 8 == sum8 (oneZ x)) = false := by
            rw [beq_eq_false_iff_ne]
            exact fun w => c3 w.symm
          rw [this]
          rfl
    cases ho : oneOf (b.drop u) with
    | none =>
      rw [ho] at e
      simp only [loopX, e]
      rw [readR_none ho]
      simp
    | some q =>
      obtain ⟨r, n⟩ := q
      have hq := oneOf_pos ho
      rw [List.length_drop] at hq
      rw [ho] at e
      simp only [loopX, e]
      rw [rread_loop b h k (u + n) (p ++ [r]) (by omega) (by omega) (by simp; omega), readR_some ho, List.drop_drop]
      simp only [List.append_assoc, List.cons_append, List.nil_append, Nat.add_assoc]

theorem rread_plain (b : List UInt8) (h : b.length < 1000000000) : osmosisref1_Frames b = some ((readR b).1, ((readR b).2 : Int)) := by
  unfold osmosisref1_Frames
  have := rread_loop b h KK 0 [] (by have := KK_big; omega) (by omega) (by simp)
  simp only [List.drop_zero, Nat.zero_add, List.nil_append] at this
  have e : osmosisref1_Frames_L2 b (0, []) = some (((readR b).2 : Int), (readR b).1) := this
  rw [e, Option.bind_some]

/-! ### Hands -/

theorem pick_plain (n m : Int) (hm : 0 < m) (hm2 : m < 4611686018427387904) : osmosishand_Pick n m = some (n % m) := by
  unfold osmosishand_Pick remI
  rw [if_neg (by omega), Option.bind_some]
  have h1 := Int.emod_nonneg n (by omega : m ≠ 0)
  have h2 := Int.emod_lt_of_pos n hm
  by_cases h : 0 ≤ n.tmod m
  · rw [dec_f (by omega), cond_false]
    congr 1
    have := Int.emod_emod_of_dvd n (Int.dvd_refl m)
    have e1 := Int.tmod_add_mul_tdiv n m
    have e2 : n.tmod m < m := Int.tmod_lt_of_pos n hm
    have e3 : n % m = (n.tmod m) % m := by
      conv => lhs; rw [← e1]
      rw [Int.add_mul_emod_self_left]
    rw [e3, Int.emod_eq_of_lt h e2]
  · have e1 := Int.tmod_add_mul_tdiv n m
    have e2 : -m < n.tmod m := by
      have := Int.lt_tmod_of_pos n hm
      exact this
    rw [dec_t (by omega), cond_true, wrap_id (by omega) (by omega)]
    congr 1
    have e3 : n % m = (n.tmod m + m) % m := by
      conv => lhs; rw [← e1]
      rw [Int.add_mul_emod_self_left, Int.add_emod_right]
    rw [e3, Int.emod_eq_of_lt (by omega) (by omega)]

theorem few_plain (b : List UInt8) (n : Nat) (h : b.length < 1000000000) : osmosishand_Few b (n : Int) = some (b.take n) := by
  unfold osmosishand_Few
  by_cases c : n < b.length
  · rw [dec_t (by omega), cond_true, slI_to b n (by omega), Option.bind_some, gd_fits1 (by simp; omega)]
  · rw [dec_f (by omega), cond_false, gd_fits1 (by omega), List.take_of_length_le (by omega)]

end Go.Proofs.Ytachollgbplikaa
