/- Plain laws of functions: hands (picks). -/
import Derived.Test.YtlcjmchhnbdepaaL1
import Derived.Test.YtlcjmchhnbdepaaY1
set_option linter.all false
set_option linter.unusedSimpArgs false
namespace Go.Proofs.Ytlcjmchhnbdepaa

theorem pick_nat (n : Int) (m : Nat) (hm : 0 < m) (hm2 : m < 1000000000000) : ∃ k : Nat, osmosishand_Pick n (m : Int) = some (k : Int) ∧ k < m := by
  have h1 := Int.emod_nonneg n (by omega : (m : Int) ≠ 0)
  have h2 := Int.emod_lt_of_pos n (by omega : (0 : Int) < (m : Int))
  refine ⟨(n % (m : Int)).toNat, ?_, by omega⟩
  rw [Int.toNat_of_nonneg h1]
  unfold osmosishand_Pick remI
  rw [if_neg (by omega), Option.bind_some]
  have e1 := Int.tmod_add_mul_tdiv n m
  by_cases h : 0 ≤ n.tmod m
  · rw [dec_f (by omega), cond_false]
    congr 1
    have e2 : n.tmod m < m := Int.tmod_lt_of_pos n (by omega)
    have e3 : n % m = (n.tmod m) % m := by
      conv => lhs; rw [← e1]
      rw [Int.add_mul_emod_self_left]
    rw [e3, Int.emod_eq_of_lt h e2]
  · have e2 : -(m : Int) < n.tmod m := Int.lt_tmod_of_pos n (by omega)
    rw [dec_t (by omega), cond_true, wrap_id (by omega) (by omega)]
    congr 1
    have e3 : n % m = (n.tmod m + m) % m := by
      conv => lhs; rw [← e1]
      rw [Int.add_mul_emod_self_left, Int.add_emod_right]
    rw [e3, Int.emod_eq_of_lt (by omega) (by omega)]
end Go.Proofs.Ytlcjmchhnbdepaa
