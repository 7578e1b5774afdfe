/- Plain laws of functions: frame.Lay, frame.Read and what they call. -/
import Derived.Test.YtachollgbplikaaF1
set_option linter.all false
set_option linter.unusedSimpArgs false
namespace Go.Proofs.Ytachollgbplikaa

theorem encF_take (l : List (List UInt8)) (i : Nat) : (encF (l.take i)).length ≤ (encF l).length := by
  have : l = l.take i ++ l.drop i := (List.take_append_drop i l).symm
  conv => rhs; rw [this]
  rw [encF_app, List.length_append]
  omega
theorem encF_ge : ∀ (l : List (List UInt8)), 9 * l.length ≤ (encF l).length
  | [] => by simp [encF]
  | z :: l => by
    have := encF_ge l
    have := encN_pos z.length
    rw [encF_cons, List.length_append, recF_len, List.length_cons]
    omega

theorem lay_plain (b : List UInt8) (l : List (List UInt8)) (h : b.length + (encF l).length < 100000000) : frame_Lay b l = some (b ++ encF l) := by
  have hl := encF_ge l
  unfold frame_Lay
  rw [gd_fits1 (by omega)]
  have : frame_Lay_L0 l (b, 0) = some (b ++ encF l) := by
    have e0 : (b, (0 : Int)) = (b ++ encF (l.take 0), ((0 : Nat) : Int)) := by simp [encF]
    rw [e0]
    refine loop_run (fun i => (b ++ encF (l.take i), (i : Int))) l.length _ (fun i hi => ?_) ?_ (by omega)
    · have h1 := encF_take l (i + 1)
      have h2 : encF (l.take (i + 1)) = encF (l.take i) ++ recF l[i] := by rw [List.take_succ_eq_append_getElem hi, encF_snoc]
      have h3 := recF_len l[i]
      have h4 : (encF (l.take (i + 1))).length = (encF (l.take i)).length + (recF l[i]).length := by rw [h2, List.length_append]
      unfold frame_Lay_L0_s
      simp only
      rw [dec_t (by omega), cond_true, getI_at hi, Option.bind_some, put_plain _ _ (by simp; omega), Option.bind_some, fsum_plain _ (by omega), Option.bind_some, putOf_one _ (by omega)]
      have h5 : [b ++ encF (l.take i) ++ encN l[i].length, sum8 l[i], l[i]].flatten = b ++ encF (l.take (i + 1)) := by
        rw [h2]
        simp [recF]
      rw [concat_plain _ (by simp) (by rw [h5, List.length_append]; omega), Option.bind_some, h5, wrap_id (by omega) (by omega), succ_cast]
    · unfold frame_Lay_L0_s
      simp only
      rw [dec_f (by omega), cond_false, List.take_length]
  rw [this, Option.bind_some]

theorem equal_plain (a b : List UInt8) (h : a.length < 1000000000000) : slices_Equal_byte_byte a b = some (decide (a = b)) := by
  unfold slices_Equal_byte_byte
  by_cases hl : a.length = b.length
  case neg =>
    rw [bne_t (by omega), cond_true, decide_eq_false (fun e => hl (by rw [e]))]
  rw [bne_f (by omega), cond_false]
  have key : ∃ x, slices_Equal_byte_byte_L0 a b 0 = some x ∧ isL x = !decide (a = b) := by
    refine loopX_inv (fun s : Int => a.length - s.toNat) (fun s => ∃ i : Nat, s = (i : Int) ∧ i ≤ a.length ∧ a.take i = b.take i) (fun x => isL x = !decide (a = b)) ?_ KK 0 ⟨0, rfl, by omega, by simp⟩ (by have := KK_big; simp; omega)
    rintro s ⟨i, rfl, h1, h2⟩
    simp only [slices_Equal_byte_byte_L0_s]
    by_cases hi : i < a.length
    · have hb : i < b.length := by omega
      rw [dec_t (by omega), cond_true, getI_at hi, Option.bind_some, getI_at hb, Option.bind_some]
      by_cases hc : a[i] = b[i]
      · left
        rw [bne_f (by rw [hc]), cond_false, wrap_id (by omega) (by omega)]
        refine ⟨_, rfl, ⟨i + 1, by omega, by omega, ?_⟩, by omega⟩
        rw [List.take_succ_eq_append_getElem hi, List.take_succ_eq_append_getElem hb, h2, hc]
      · right
        rw [bne_t (fun e => hc (UInt8.toNat_inj.1 (by omega))), cond_true]
        refine ⟨_, rfl, ?_⟩
        have : a ≠ b := fun e => hc (by subst e; rfl)
        simp [isL, this]
    · right
      rw [dec_f (by omega), cond_false]
      refine ⟨_, rfl, ?_⟩
      have : a = b := by
        rw [List.take_of_length_le (by omega), List.take_of_length_le (by omega)] at h2
        exact h2
      simp [isL, this]
  obtain ⟨x, e1, e2⟩ := key
  rw [e1, Option.bind_some, e2]
  cases decide (a = b) <;> rfl

theorem last_plain (c : UInt8) : nums_take_1 c = some (decide (c.toNat < 128)) := by
  unfold nums_take_1
  rw [last_byte]

def atI : Option Nat → Int
  | some i => i
  | none => -1

theorem index_plain (b : List UInt8) (h : b.length < 1000000000000) : slices_IndexFunc_byte_byte b = some (atI (endsAt b)) := by
  unfold slices_IndexFunc_byte_byte
  have key : ∃ x, slices_IndexFunc_byte_byte_L0 b 0 = some x ∧ (match endsAt b with
      | some i => x = .inl (i : Int)
      | none => x = .inr ()) := by
    refine loopX_inv (fun s : Int => b.length - s.toNat) (fun s => ∃ i : Nat, s = (i : Int) ∧ i ≤ b.length ∧ ∀ j (h : j < i) (h' : j < b.length), ¬ (b[j]).toNat < 128) _ ?_ KK 0 ⟨0, rfl, by omega, fun j h => by omega⟩ (by have := KK_big; simp; omega)
    rintro s ⟨i, rfl, h1, h2⟩
    simp only [slices_IndexFunc_byte_byte_L0_s]
    by_cases hi : i < b.length
    · rw [dec_t (by omega), cond_true, getI_at hi, Option.bind_some, last_plain, Option.bind_some]
      by_cases hc : (b[i]).toNat < 128
      · right
        refine ⟨.inl (i : Int), by rw [decide_eq_true hc, cond_true], ?_⟩
        rw [endsAt_drop b i h1 h2, List.drop_eq_getElem_cons hi, endsAt, if_pos hc]
        simp
      · left
        rw [dec_f hc, cond_false, wrap_id (by omega) (by omega)]
        refine ⟨_, rfl, ⟨i + 1, by omega, by omega, fun j hj hj' => ?_⟩, by omega⟩
        rcases Nat.lt_or_ge j i with q | q
        · exact h2 j q hj'
        · have : j = i := by omega
          subst this
          exact hc
    · right
      refine ⟨.inr (), by rw [dec_f (by omega), cond_false], ?_⟩
      rw [endsAt_drop b i h1 h2, List.drop_of_length_le (by omega)]
      simp [endsAt]
  obtain ⟨x, e1, e2⟩ := key
  rw [e1, Option.bind_some]
  cases he : endsAt b with
  | some i =>
    rw [he] at e2
    simp only at e2
    subst e2
    rfl
  | none =>
    rw [he] at e2
    simp only at e2
    subst e2
    rfl

theorem horner_plain (b : List UInt8) (i : Nat) (hi : i < b.length) (h9 : i < 9) : nums_take_L1 b (i : Int) (0, (i : Int)) = some ((valOf (b.take (i + 1)) : Nat) : Int) := by
  have key : ∃ x, nums_take_L1 b (i : Int) (0, (i : Int)) = some x ∧ x = ((valOf (b.take (i + 1)) : Nat) : Int) := by
    refine loopX_inv (fun s : Int × Int => (s.2 + 1).toNat) (fun s => ∃ k : Nat, k ≤ i + 1 ∧ s.2 = (k : Int) - 1 ∧ s.1 = ((valOf ((b.take (i + 1)).drop k) : Nat) : Int)) _ ?_ KK (0, (i : Int)) ⟨i + 1, by omega, by simp, by rw [List.drop_of_length_le (by simp; omega)]; simp [valOf]⟩ (by have := KK_big; simp only; omega)
    rintro ⟨v, j⟩ ⟨k, h1, h2, h3⟩
    simp only at h2 h3
    subst h2 h3
    simp only [nums_take_L1_s]
    cases k with
    | zero =>
      right
      exact ⟨_, by rw [dec_f (by omega), cond_false], by simp⟩
    | succ k =>
      left
      have hk : k < b.length := by omega
      have e : ((k + 1 : Nat) : Int) - 1 = (k : Int) := by omega
      rw [e, dec_t (by omega), cond_true, getI_at hk, Option.bind_some]
      have hl : ((b.take (i + 1)).drop (k + 1)).length ≤ 8 := by simp; omega
      have hv := valOf_lt ((b.take (i + 1)).drop (k + 1))
      have hv8 : valOf ((b.take (i + 1)).drop (k + 1)) < 72057594037927936 := Nat.lt_of_lt_of_le hv (by
        have := Nat.pow_le_pow_right (n := 128) (by omega) hl
        simpa using this)
      have hd : (b.take (i + 1)).drop k = b[k] :: (b.take (i + 1)).drop (k + 1) := by
        rw [List.drop_eq_getElem_cons (by simp; omega)]
        simp
      refine ⟨_, rfl, ⟨k, by omega, ?_, ?_⟩, ?_⟩
      · simp only
        rw [wrap_id (by omega) (by omega)]
      · simp only
        rw [low_byte, wrap_id (by omega) (by omega), or_low _ _ hv8 (by omega), hd]
        rfl
      · simp only
        rw [wrap_id (by omega) (by omega)]
        omega
  obtain ⟨x, e1, e2⟩ := key
  rw [e1, e2]

theorem take_plain (b : List UInt8) (h : b.length < 1000000000000) : nums_take b = some (takeOf b) := by
  unfold nums_take takeOf
  rw [index_plain b h, Option.bind_some]
  cases he : endsAt b with
  | none => rfl
  | some i =>
    have hi := endsAt_lt he
    show _ = some (takeAt b i)
    unfold takeAt
    have ea : atI (some i) = (i : Int) := rfl
    rw [ea, dec_f (by omega), cond_false]
    have j0 : nums_take_J0 (i : Int) b = some (if 9 ≤ i ∨ (0 < i ∧ b[i]? = some 0) then .inl () else .inr ()) := by
      unfold nums_take_J0
      by_cases h9 : 9 ≤ i
      · rw [dec_t (by omega), cond_true, if_pos (.inl h9)]
      · rw [dec_f (by omega), cond_false]
        by_cases h0 : 0 < i
        · rw [dec_t (by omega), cond_true, getI_nat, List.getElem?_eq_getElem hi, Option.bind_some]
          by_cases hz : b[i] = 0
          · rw [if_pos (.inr ⟨h0, by rw [hz]⟩), hz]
            rfl
          · rw [if_neg (by
              rintro (q | ⟨_, q⟩)
              · omega
              · exact hz (Option.some.inj q))]
            rw [beq_f (by
              intro e
              exact hz (UInt8.toNat_inj.1 (by simp; omega))), cond_false]
        · rw [dec_f (by omega), cond_false, if_neg (by
            rintro (q | ⟨q, _⟩) <;> omega)]
    rw [j0, Option.bind_some]
    by_cases hc : 9 ≤ i ∨ (0 < i ∧ b[i]? = some 0)
    · rw [if_pos hc, if_pos hc]
      rfl
    · rw [if_neg hc, if_neg hc]
      simp only [isL, cond_false]
      have h9 : i < 9 := by
        rcases Nat.lt_or_ge i 9 with q | q
        · exact q
        · exact absurd (.inl q) hc
      rw [horner_plain b i hi h9, Option.bind_some]
      unfold nums_take_J2
      rw [dec_f (by omega), cond_false]
      by_cases hv : 4611686018427387903 < valOf (b.take (i + 1))
      · rw [dec_t (by omega), cond_true, if_pos hv]
        rfl
      · rw [dec_f (by omega), cond_false, if_neg hv, Option.bind_some]
        simp only [isL, cond_false]
        rw [wrap_id (by omega) (by omega)]
        rfl

theorem Take_plain (b : List UInt8) (h : b.length < 1000000000000) : nums_Take b = some (TakeOf b) := by
  unfold nums_Take TakeOf
  rw [take_plain b h, Option.bind_some]
  have hle := takeOf_le b
  generalize takeOf b = t at *
  obtain ⟨v, k, e⟩ := t
  simp only at hle ⊢
  by_cases he : e = 0
  · subst he
    simp only [bne_self_eq_false, cond_false, if_true]
    obtain ⟨n, rfl⟩ : ∃ n : Nat, k = n := ⟨k.toNat, by omega⟩
    rw [slI_from b n (by omega), Option.bind_some]
    unfold nums_own
    rw [gd_fits1 (by simp; omega), Option.bind_some]
    simp
  · rw [bne_t he, cond_true, if_neg he]

theorem min9 (n : Nat) : (if (9 : Int) < (n : Int) then (9 : Int) else (n : Int)) = ((min 9 n : Nat) : Int) := by
  by_cases h : 9 < n
  · rw [if_pos (by omega), Nat.min_eq_left (by omega)]; rfl
  · rw [if_neg (by omega), Nat.min_eq_right (by omega)]

def oneT (b : List UInt8) : List UInt8 × Int × Bool := match oneOf b with
  | some (r, n) => (r, (n : Int), true)
  | none => ([], 0, false)

theorem one_plain (b : List UInt8) (h : b.length < 1000000000) : frame_one b = some (oneT b) := by
  unfold frame_one
  have e9 : slI b 0 (if (9 : Int) < (b.length : Int) then 9 else (b.length : Int)) = some (b.take 9) := by
    rw [min9, slI_to b _ (by omega)]
    congr 1
    rcases Nat.lt_or_ge 9 b.length with q | q
    · rw [Nat.min_eq_left (by omega)]
    · rw [Nat.min_eq_right q, List.take_length, List.take_of_length_le q]
  rw [e9, Option.bind_some, Take_plain _ (by simp; omega), Option.bind_some, Option.bind_some]
  have h9 := takeOf_nine b
  have bad : ∀ e : Int, (takeOf b).2.2 ≠ 0 → e ≠ 0 → ((frame_one_J0 (0, [], e) b (b.take 9)).bind fun (x4 : Unit ⊕ Unit) => cond (isL x4) (some (([], 0, false) : List UInt8 × Int × Bool)) none) = some (oneT b) := fun e h1 h2 => by
    unfold frame_one_J0
    rw [bne_t h2, cond_true, Option.bind_some]
    unfold oneT oneOf
    rw [if_neg (fun q => h1 q.1)]
    rfl
  have done : ∀ {x : Int × List UInt8 × Int} {K : Option (List UInt8 × Int × Bool)}, frame_one_J0 x b (b.take 9) = some (.inl ()) → oneOf b = none → ((frame_one_J0 x b (b.take 9)).bind fun (x4 : Unit ⊕ Unit) => cond (isL x4) (some (([], 0, false) : List UInt8 × Int × Bool)) K) = some (oneT b) := fun h1 h2 => by
    rw [h1, Option.bind_some]
    unfold oneT
    rw [h2]
    rfl
  rcases TakeOf_cases (b.take 9) with e | e | ⟨v, k, e, e2, hv, hk1, hk9, hkl⟩
  · have hb : (takeOf b).2.2 ≠ 0 := by
      intro q
      have hx : (takeOf (b.take 9)).2.2 = 3 := by
        unfold TakeOf at e
        split at e
        rename_i heq
        rw [heq]
        split at e
        · injection e with _ e; injection e with _ e; cases e
        · injection e with _ e; injection e with _ e
      rcases h9 with q2 | q2
      · rw [q2, q] at hx; cases hx
      · exact q2.2 q
    refine done ?_ (by unfold oneOf; rw [if_neg (fun q => hb q.1)])
    rw [e]; unfold frame_one_J0; rw [bne_t (by decide), cond_true]
  · have hb : (takeOf b).2.2 ≠ 0 := by
      intro q
      have hx : (takeOf (b.take 9)).2.2 = 2 := by
        unfold TakeOf at e
        split at e
        rename_i heq
        rw [heq]
        split at e
        · injection e with _ e; injection e with _ e; cases e
        · injection e with _ e; injection e with _ e
      rcases h9 with q2 | q2
      · rw [q2, q] at hx; cases hx
      · exact q2.2 q
    refine done ?_ (by unfold oneOf; rw [if_neg (fun q => hb q.1)])
    rw [e]; unfold frame_one_J0; rw [bne_t (by decide), cond_true]
  · have ht : takeOf b = ((v : Int), (k : Int), 0) := by
      rcases h9 with q | q
      · rw [← q, e2]
      · rw [e2] at q; exact absurd rfl q.1
    have hV : oneV b = v := by unfold oneV; rw [ht]; simp
    have hK : oneK b = k := by unfold oneK; rw [ht]; simp
    rw [List.length_take] at hkl
    rw [e]
    have w0 : IntKind.i64.wrap (((b.take 9).length : Int) - (((b.take 9).drop k).length : Int)) = (k : Int) := by
      rw [List.length_drop, List.length_take, wrap_id (by omega) (by omega)]
      omega
    have w1 : IntKind.i64.wrap ((k : Int) + 8) = ((k + 8 : Nat) : Int) := by rw [wrap_id (by omega) (by omega)]; omega
    have w2 : IntKind.i64.wrap (((k + 8 : Nat) : Int) + (v : Int)) = ((k + 8 + v : Nat) : Int) := by rw [wrap_id (by omega) (by omega)]; omega
    have w3 : IntKind.i64.wrap (((k + 8 : Nat) : Int) - 8) = (k : Int) := by rw [wrap_id (by omega) (by omega)]; omega
    simp only [w0, w1, w2, w3]
    by_cases c1 : v ≤ 4000
    case neg =>
      refine done ?_ (by unfold oneOf; rw [if_neg (fun q => c1 (by have := q.2.1; rw [hV] at this; exact this))])
      unfold frame_one_J0
      simp only
      rw [bne_f rfl, cond_false, dec_t (by omega), cond_true]
    by_cases c2 : k + 8 + v ≤ b.length
    case neg =>
      refine done ?_ (by unfold oneOf; rw [if_neg (fun q => c2 (by have := q.2.2.1; rw [hV, hK] at this; exact this))])
      unfold frame_one_J0
      simp only [w0, w1, w2]
      rw [bne_f rfl, cond_false, dec_f (by omega), cond_false, dec_t (by omega), cond_true]
    have e0 : frame_one_J0 ((v : Int), (b.take 9).drop k, 0) b (b.take 9) = some (.inr ()) := by
      unfold frame_one_J0
      simp only [w0, w1, w2]
      rw [bne_f rfl, cond_false, dec_f (by omega), cond_false, dec_f (by omega), cond_false]
    rw [e0, Option.bind_some]
    simp only [isL, cond_false]
    have hZ : (b.drop (k + 8)).take (k + 8 + v - (k + 8)) = oneZ b := by unfold oneZ; rw [hK, hV, Nat.add_sub_cancel_left]
    have hZl : (oneZ b).length ≤ 4000 := by unfold oneZ; rw [List.length_take, hV]; omega
    rw [slI_nat b _ _ (by omega) c2, Option.bind_some, hZ, fsum_plain _ (by omega), Option.bind_some, slI_nat b _ _ (by omega) (by omega), Option.bind_some, Nat.add_sub_cancel_left, equal_plain _ _ (by rw [sum8_len]; omega), Option.bind_some]
    unfold oneT oneOf
    rw [hV, hK, ht]
    by_cases c3 : sum8 (oneZ b) = (b.drop k).take 8
    · rw [dec_t c3, if_pos ⟨rfl, c1, c2, c3⟩]
      simp only [Bool.not_true, cond_false]
      rw [gd_fits1 (by omega)]
    · rw [dec_f c3, if_neg (fun q => c3 q.2.2.2)]
      rfl

theorem read_loop (b : List UInt8) (h : b.length < 1000000000) : ∀ (k u : Nat) (p : List (List UInt8)), b.length - u < k → u ≤ b.length → p.length ≤ u → loopX (frame_Read_L0_s b) k ((u : Int), p) = some (((u + (readR (b.drop u)).2 : Nat) : Int), p ++ (readR (b.drop u)).1)
  | 0, u, p, hk, _, _ => by omega
  | k + 1, u, p, hk, hu, hp => by
    have e : frame_Read_L0_s b ((u : Int), p) = match oneOf (b.drop u) with
        | some (r, n) => some (.inl (((u + n : Nat) : Int), p ++ [r]))
        | none => some (.inr ((u : Int), p)) := by
      unfold frame_Read_L0_s
      simp only
      rw [slI_from b u hu, Option.bind_some, one_plain _ (by rw [List.length_drop]; omega), Option.bind_some]
      unfold oneT
      cases ho : oneOf (b.drop u) with
      | none => rfl
      | some q =>
        obtain ⟨r, n⟩ := q
        have hq := oneOf_pos ho
        rw [List.length_drop] at hq
        simp only [Bool.not_true, cond_false]
        rw [gd_fits24 (by simp; omega), wrap_id (by omega) (by omega)]
        rfl
    cases ho : oneOf (b.drop u) with
    | none =>
      rw [ho] at e
      simp only [loopX, e]
      rw [readR_none ho]
      simp
    | some q =>
      obtain ⟨r, n⟩ := q
      have hq := oneOf_pos ho
      rw [List.length_drop] at hq
      rw [ho] at e
      simp only [loopX, e]
      rw [read_loop b h k (u + n) (p ++ [r]) (by omega) (by omega) (by simp; omega), readR_some ho, List.drop_drop]
      simp only [List.append_assoc, List.cons_append, List.nil_append, Nat.add_assoc]

theorem read_plain (b : List UInt8) (h : b.length < 1000000000) : frame_Read b = some ((readR b).1, ((readR b).2 : Int)) := by
  unfold frame_Read
  have := read_loop b h KK 0 [] (by have := KK_big; omega) (by omega) (by simp)
  simp only [List.drop_zero, Nat.zero_add, List.nil_append] at this
  have e : frame_Read_L0 b (0, []) = some (((readR b).2 : Int), (readR b).1) := this
  rw [e, Option.bind_some]

end Go.Proofs.Ytachollgbplikaa
