/- Plain laws of functions: disks. -/
import Derived.Test.YteibgagdnidojaaC1
import Derived.Test.YteibgagdnidojaaC2
import Derived.Test.YteibgagdnidojaaJ5
set_option linter.all false
set_option linter.unusedSimpArgs false
namespace Go.Proofs.Yteibgagdnidojaa

def some6 (l : List (List UInt8)) : List (List UInt8) := (l.take 6).map (·.take 60)
theorem some6_plain (l : List (List UInt8)) : osmosislaw4_some l = some (some6 l) := by
  unfold osmosislaw4_some
  have : osmosislaw4_some_L1 l (0, []) = some (some6 l) := by
    refine loop_run (fun i => ((i : Int), (l.take i).map (·.take 60))) (min 6 l.length) _ (fun i hi => ?_) ?_ (by omega)
    · have h1 : i < l.length := by omega
      unfold osmosislaw4_some_L1_s osmosislaw4_some_J0
      simp only
      rw [dec_t (by omega), cond_true, dec_t (by omega), cond_true, Option.bind_some]
      simp only [isL, cond_true]
      rw [getI_at h1, Option.bind_some, few60, Option.bind_some, gd_fits24 (by simp; omega), wrap_id (by omega) (by omega), List.take_succ_eq_append_getElem h1, List.map_append, succ_cast]
      rfl
    · unfold osmosislaw4_some_L1_s osmosislaw4_some_J0 some6
      simp only
      rcases Nat.lt_or_ge 6 l.length with q | q
      · rw [Nat.min_eq_left (by omega), dec_t (by omega), cond_true, dec_f (by omega), cond_false]
        rfl
      · rw [Nat.min_eq_right q, dec_f (by omega), cond_false, List.take_length, List.take_of_length_le q]
        rfl
  rw [this, Option.bind_some]
theorem flat_bound : ∀ (l : List (List UInt8)), (∀ z ∈ l, z.length ≤ 60) → l.flatten.length ≤ 60 * l.length
  | [], _ => by simp
  | z :: l, h => by
    have h1 := flat_bound l fun y hy => h y (by simp [hy])
    have h2 := h z (by simp)
    rw [List.flatten_cons, List.length_append, List.length_cons]
    omega
theorem some6_le (l : List (List UInt8)) : (some6 l).length ≤ 6 ∧ (some6 l).flatten.length ≤ 360 ∧ ∀ z ∈ some6 l, z.length ≤ 60 := by
  have h2 : ∀ z ∈ some6 l, z.length ≤ 60 := fun z hz => by
    obtain ⟨y, _, rfl⟩ := List.mem_map.1 hz
    simp
    omega
  have h1 : (some6 l).length ≤ 6 := by unfold some6; simp; omega
  have := flat_bound _ h2
  exact ⟨h1, by omega, h2⟩

theorem append_plain (l : List (List UInt8)) (p : Int) (b : List UInt8) (hl : l.length < 1000000) (h : b.length + l.flatten.length < 1000000) : disk_Disk_Append_2 l p b = some (if b.length + l.flatten.length ≤ 65536 then (true, b ++ l.flatten) else (false, b)) := by
  unfold disk_Disk_Append_2
  rw [concat_plain _ (by omega) (by omega), Option.bind_some, wrap_id (by omega) (by omega)]
  by_cases c : b.length + l.flatten.length ≤ 65536
  · rw [dec_f (by omega), cond_false, gd_fits1 (by simp only [List.length_append]; omega), if_pos c]
  · rw [dec_t (by omega), cond_true, if_neg c]
theorem append1_plain (z : List UInt8) (p : Int) (b : List UInt8) (h : b.length + z.length ≤ 65536) : disk_Disk_Append_2 [z] p b = some (true, b ++ z) := by
  have e : [z].flatten = z := by simp
  rw [append_plain [z] p b (by simp) (by rw [e]; omega), e, if_pos h]

def kp (keep n : Int) : Int := if (if n < keep then n else keep) > 0 then (if n < keep then n else keep) else 0
theorem kp_nat (keep : Int) (n : Nat) : ∃ k : Nat, kp keep (n : Int) = (k : Int) ∧ k ≤ n := by
  unfold kp
  refine ⟨(if (if (n : Int) < keep then (n : Int) else keep) > 0 then (if (n : Int) < keep then (n : Int) else keep) else 0).toNat, ?_, ?_⟩ <;> (split <;> split at * <;> omega)
theorem crash_plain (keep : Int) (sy k : Nat) (b : List UInt8) (h : b.length < 1000000000) (hs : sy ≤ b.length) (hk : kp keep ((b.length - sy : Nat) : Int) = (k : Int)) (hk2 : k ≤ b.length - sy) : disk_Disk_Crash keep (sy : Int) b = some ((k : Int), ((sy + k : Nat) : Int), b.take (sy + k)) := by
  unfold disk_Disk_Crash
  have e1 : IntKind.i64.wrap ((b.length : Int) - (sy : Int)) = ((b.length - sy : Nat) : Int) := by rw [wrap_id (by omega) (by omega)]; omega
  rw [e1]
  unfold kp at hk
  rw [hk]
  have e3 : IntKind.i64.wrap ((sy : Int) + (k : Int)) = ((sy + k : Nat) : Int) := by rw [wrap_id (by omega) (by omega)]; omega
  rw [e3, slI_to b _ (by omega), Option.bind_some]
theorem known4 : osmosislaw4_known = some true := by kernel_rfl
theorem new_plain : disk_New = some 0 := rfl
theorem catS_plain (a b : List UInt8) (h : a.length + b.length < 1000000000) : catS a b = some (a ++ b) := by
  unfold catS
  rw [if_pos (by omega)]

end Go.Proofs.Yteibgagdnidojaa
