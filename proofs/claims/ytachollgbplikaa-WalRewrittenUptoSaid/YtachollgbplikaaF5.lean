/- Plain laws of functions: disks and logs. -/
import Derived.Test.YtachollgbplikaaF2
import Derived.Test.YtachollgbplikaaC2
import Derived.Test.YtachollgbplikaaY2
import Derived.Test.YtachollgbplikaaJ5
set_option linter.all false
set_option linter.unusedSimpArgs false
namespace Go.Proofs.Ytachollgbplikaa

def some5 (l : List (List UInt8)) : List (List UInt8) := (l.take 5).map (·.take 60)
theorem some5_plain (l : List (List UInt8)) : osmosislaw5_some l = some (some5 l) := by
  unfold osmosislaw5_some
  have : osmosislaw5_some_L1 l (0, []) = some (some5 l) := by
    refine loop_run (fun i => ((i : Int), (l.take i).map (·.take 60))) (min 5 l.length) _ (fun i hi => ?_) ?_ (by omega)
    · have h1 : i < l.length := by omega
      unfold osmosislaw5_some_L1_s osmosislaw5_some_J0
      simp only
      rw [dec_t (by omega), cond_true, dec_t (by omega), cond_true, Option.bind_some]
      simp only [isL, cond_true]
      rw [getI_at h1, Option.bind_some, few60, Option.bind_some, gd_fits24 (by simp; omega), wrap_id (by omega) (by omega), List.take_succ_eq_append_getElem h1, List.map_append, succ_cast]
      rfl
    · unfold osmosislaw5_some_L1_s osmosislaw5_some_J0 some5
      simp only
      rcases Nat.lt_or_ge 5 l.length with q | q
      · rw [Nat.min_eq_left (by omega), dec_t (by omega), cond_true, dec_f (by omega), cond_false]
        rfl
      · rw [Nat.min_eq_right q, dec_f (by omega), cond_false, List.take_length, List.take_of_length_le q]
        rfl
  rw [this, Option.bind_some]
theorem some5_le (l : List (List UInt8)) : (some5 l).length ≤ 5 ∧ ∀ z ∈ some5 l, z.length ≤ 60 := by
  unfold some5
  refine ⟨by simp; omega, fun z hz => ?_⟩
  obtain ⟨y, _, rfl⟩ := List.mem_map.1 hz
  simp
  omega
theorem encF_bound (m : Nat) (hm : m ≤ 4000) : ∀ (l : List (List UInt8)), (∀ z ∈ l, z.length ≤ m) → (encF l).length ≤ (m + 17) * l.length
  | [], _ => by simp [encF]
  | z :: l, h => by
    have h1 := encF_bound m hm l fun y hy => h y (by simp [hy])
    have h2 := h z (by simp)
    have h3 := encN_le9 (x := z.length) (by omega)
    rw [encF_cons, List.length_append, recF_len, List.length_cons, Nat.mul_succ]
    omega
theorem some5_enc (l : List (List UInt8)) : (encF (some5 l)).length ≤ 385 := by
  have := encF_bound 60 (by omega) _ (some5_le l).2
  have := (some5_le l).1
  omega

/-- None is too long. -/
theorem long_plain (l : List (List UInt8)) (h : l.length < 1000000000000) : wal_long l = some (l.any fun z => decide (4000 < z.length)) := by
  have key : ∃ x, slices_IndexFunc_byte_byte_2 l = some x ∧ decide (x ≥ 0) = (l.any fun z => decide (4000 < z.length)) := by
    unfold slices_IndexFunc_byte_byte_2
    have key : ∃ x, slices_IndexFunc_byte_byte_2_L0 l 0 = some x ∧ ∃ y, (cond (isL x) (some (getL x)) (some (-1))) = some y ∧ decide (y ≥ 0) = (l.any fun z => decide (4000 < z.length)) := by
      refine loopX_inv (fun s : Int => l.length - s.toNat) (fun s => ∃ i : Nat, s = (i : Int) ∧ i ≤ l.length ∧ ∀ z ∈ l.take i, ¬ 4000 < z.length) _ ?_ KK 0 ⟨0, rfl, by omega, by simp⟩ (by have := KK_big; simp; omega)
      rintro s ⟨i, rfl, h1, h2⟩
      simp only [slices_IndexFunc_byte_byte_2_L0_s, wal_long_1]
      by_cases hi : i < l.length
      · rw [dec_t (by omega), cond_true, getI_at hi, Option.bind_some, Option.bind_some]
        by_cases hc : 4000 < l[i].length
        · right
          rw [dec_t (by omega), cond_true]
          refine ⟨_, rfl, (i : Int), rfl, ?_⟩
          rw [dec_t (by omega)]
          exact (List.any_eq_true.2 ⟨_, List.getElem_mem hi, by simpa using hc⟩).symm
        · left
          rw [dec_f (by omega), cond_false, wrap_id (by omega) (by omega)]
          refine ⟨_, rfl, ⟨i + 1, by omega, by omega, ?_⟩, by omega⟩
          rw [List.take_succ_eq_append_getElem hi]
          intro z hz
          rcases List.mem_append.1 hz with hz | hz
          · exact h2 z hz
          · rw [List.mem_singleton.1 hz]; exact hc
      · right
        rw [dec_f (by omega), cond_false]
        refine ⟨_, rfl, -1, rfl, ?_⟩
        rw [List.take_of_length_le (by omega)] at h2
        rw [dec_f (by omega)]
        symm
        rw [List.any_eq_false]
        intro z hz
        simpa using h2 z hz
    obtain ⟨x, e1, y, e2, e3⟩ := key
    exact ⟨y, by rw [e1, Option.bind_some, e2], e3⟩
  obtain ⟨x, e1, e2⟩ := key
  unfold wal_long slices_ContainsFunc_byte_byte
  rw [e1, Option.bind_some, Option.bind_some, e2]
theorem long_not (l : List (List UInt8)) (h : l.length < 1000000000000) (hs : ∀ z ∈ l, z.length ≤ 4000) : wal_long l = some false := by
  rw [long_plain l h]
  congr 1
  rw [List.any_eq_false]
  intro z hz
  have := hs z hz
  simp
  omega

theorem append_plain (z : List UInt8) (p : Int) (b : List UInt8) (h : b.length + z.length ≤ 65536) : disk_Disk_Append [z] p b = some (true, b ++ z) := by
  unfold disk_Disk_Append
  rw [concat_plain _ (by simp) (by simp; omega), Option.bind_some]
  simp only [List.flatten_cons, List.flatten_nil, List.append_nil]
  rw [wrap_id (by omega) (by omega), dec_f (by omega), cond_false, gd_fits1 (by simp; omega)]

theorem add_plain (l : List (List UInt8)) (p : Int) (b : List UInt8) (hl : l.length < 1000000) (hs : ∀ z ∈ l, z.length ≤ 4000) (h : b.length + (encF l).length ≤ 65536) : wal_Log_Add l p b = some (true, b ++ encF l) := by
  unfold wal_Log_Add
  rw [long_not l (by omega) hs, Option.bind_some]
  simp only [Bool.not_false, cond_true]
  rw [lay_plain _ _ (by simp; omega), Option.bind_some, List.nil_append, append_plain _ _ _ h, Option.bind_some]

theorem swap_plain (z : List UInt8) (p : Int) (b : List UInt8) (h : z.length ≤ 65536) : disk_Disk_Swap_2 z p b = some (true, (z.length : Int), z) := by
  unfold disk_Disk_Swap_2
  rw [dec_f (by omega), cond_false, gd_fits1 (by omega)]
theorem rewrite_plain (l : List (List UInt8)) (p : Int) (b : List UInt8) (hl : l.length < 1000000) (hs : ∀ z ∈ l, z.length ≤ 4000) (h : (encF l).length ≤ 65536) : wal_Log_Rewrite l p b = some (true, ((encF l).length : Int), encF l) := by
  unfold wal_Log_Rewrite
  rw [long_not l (by omega) hs, Option.bind_some]
  simp only [Bool.not_false, cond_true]
  rw [lay_plain _ _ (by simp; omega), Option.bind_some, List.nil_append, swap_plain _ _ _ h, Option.bind_some]

theorem crash_plain (k sy : Nat) (b : List UInt8) (h : b.length < 1000000000) (hs : sy ≤ b.length) (hk : k < 1000000000) : disk_Disk_Crash (k : Int) (sy : Int) b = some (((min k (b.length - sy) : Nat) : Int), ((sy + min k (b.length - sy) : Nat) : Int), b.take (sy + min k (b.length - sy))) := by
  unfold disk_Disk_Crash
  have e1 : IntKind.i64.wrap ((b.length : Int) - (sy : Int)) = ((b.length - sy : Nat) : Int) := by rw [wrap_id (by omega) (by omega)]; omega
  rw [e1]
  have e2 : (if (if ((b.length - sy : Nat) : Int) < (k : Int) then ((b.length - sy : Nat) : Int) else (k : Int)) > 0 then (if ((b.length - sy : Nat) : Int) < (k : Int) then ((b.length - sy : Nat) : Int) else (k : Int)) else 0) = ((min k (b.length - sy) : Nat) : Int) := by
    split <;> split at * <;> omega
  rw [e2]
  have e3 : IntKind.i64.wrap ((sy : Int) + ((min k (b.length - sy) : Nat) : Int)) = ((sy + min k (b.length - sy) : Nat) : Int) := by rw [wrap_id (by omega) (by omega)]; omega
  rw [e3, slI_to b _ (by omega), Option.bind_some]

/-- A log is opened over its bytes. -/
theorem open_plain (sy : Int) (b : List UInt8) (h : b.length ≤ 65536) : wal_Open_2 sy b = some (if (readR b).2 < b.length then (((readR b).2 : Nat) : Int) else sy, b.take (readR b).2) := by
  have hr := readR_le b
  unfold wal_Open_2 disk_Disk_Bytes_2
  rw [gd_fits1 (by omega), Option.bind_some, read_plain _ (by omega), Option.bind_some]
  by_cases c : (readR b).2 < b.length
  · rw [dec_t (by simp only; omega), cond_true, slI_to b _ (by omega), Option.bind_some, swap_plain _ _ _ (by simp; omega), Option.bind_some, if_pos c, List.length_take, Nat.min_eq_left (by omega)]
  · rw [dec_f (by simp only; omega), cond_false, if_neg c, List.take_of_length_le (by omega)]
theorem open_new : wal_Open 0 = some (0, []) := by kernel_rfl
theorem records_plain (p : Int) (b : List UInt8) (h : b.length < 1000000000) : wal_Log_Records p b = some (readR b).1 := by
  unfold wal_Log_Records disk_Disk_Bytes_2
  rw [gd_fits1 (by omega), Option.bind_some, read_plain _ h, Option.bind_some]
theorem known5 : osmosislaw5_known = some true := by kernel_rfl
theorem new_plain : disk_New = some 0 := rfl

theorem same5_self (l : List (List UInt8)) (h : l.length < 1000000000) : osmosislaw5_same l l = some true := by
  unfold osmosislaw5_same
  rw [bne_f rfl, cond_false]
  have : osmosislaw5_same_L0 l l 0 = some (.inr ()) := by
    refine loop_run (fun i => (i : Int)) l.length _ (fun i hi => ?_) ?_ (by omega)
    · unfold osmosislaw5_same_L0_s
      rw [dec_t (by omega), cond_true, getI_at hi, Option.bind_some, Option.bind_some, wrap_id (by omega) (by omega), succ_cast]
      simp only [beq_self_eq_true, Bool.not_true, cond_false]
    · unfold osmosislaw5_same_L0_s
      rw [dec_f (by omega), cond_false]
  rw [this, Option.bind_some]
  rfl

/-- What is read of what was opened. -/
theorem open_reads (a b : List (List UInt8)) (k : Nat) (ha : ∀ z ∈ a, z.length ≤ 4000) (hb : ∀ z ∈ b, z.length ≤ 4000) :
    readR (encF a ++ (encF b).take k) = (a ++ b.take (cutF b k).1, (encF a).length + (cutF b k).2)
    ∧ (encF a ++ (encF b).take k).take ((encF a).length + (cutF b k).2) = encF (a ++ b.take (cutF b k).1) := by
  refine ⟨?_, ?_⟩
  · rw [readR_then _ _ ha, readR_cut _ hb]
  · have h := cutF_le b k
    rw [List.take_append, List.take_of_length_le (by omega), Nat.add_sub_cancel_left, List.take_take, Nat.min_eq_left h.2.1, encF_app]
    congr 1
    have e : encF b = encF (b.take (cutF b k).1) ++ encF (b.drop (cutF b k).1) := by rw [← encF_app, List.take_append_drop]
    rw [h.2.2]
    conv => lhs; rw [e]
    rw [List.take_left]

end Go.Proofs.Ytachollgbplikaa
