/- Plain laws of functions: slices.Concat. -/
import Derived.Test.YtachollgbplikaaL1
import Derived.Test.YtachollgbplikaaY2
set_option linter.all false
set_option linter.unusedSimpArgs false
namespace Go.Proofs.Ytachollgbplikaa

theorem flat_len (l : List (List UInt8)) (i : Nat) (hi : i < l.length) : (l.take (i + 1)).flatten.length = (l.take i).flatten.length + l[i].length := by
  rw [List.take_succ_eq_append_getElem hi, List.flatten_append, List.flatten_cons, List.flatten_nil, List.append_nil, List.length_append]
theorem flat_le (l : List (List UInt8)) (i : Nat) : (l.take i).flatten.length ≤ l.flatten.length := by
  have : l = l.take i ++ l.drop i := (List.take_append_drop i l).symm
  conv => rhs; rw [this]
  rw [List.flatten_append, List.length_append]
  omega

theorem concat_plain (l : List (List UInt8)) (h : l.length < 1000000000) (h2 : l.flatten.length < 1000000000) : slices_Concat_byte_byte l = some l.flatten := by
  unfold slices_Concat_byte_byte
  have e1 : slices_Concat_byte_byte_L0 l (0, 0) = some (l.flatten.length : Int) := by
    refine loop_run (fun i => (((l.take i).flatten.length : Int), (i : Int))) l.length _ (fun i hi => ?_) ?_ (by omega)
    · have := flat_len l i hi
      have := flat_le l (i + 1)
      unfold slices_Concat_byte_byte_L0_s
      simp only
      rw [dec_t (by omega), cond_true, getI_at hi, Option.bind_some, wrap_id (by omega) (by omega), dec_f (by omega), cond_false, wrap_id (by omega) (by omega)]
      simp only [succ_cast, this]
      congr 3
      omega
    · unfold slices_Concat_byte_byte_L0_s
      simp only
      rw [dec_f (by omega), cond_false, List.take_length]
  have e2 : slices_Concat_byte_byte_L1 l (0, []) = some l.flatten := by
    refine loop_run (fun i => ((i : Int), (l.take i).flatten)) l.length _ (fun i hi => ?_) ?_ (by omega)
    · have h3 := flat_len l i hi
      have h4 := flat_le l (i + 1)
      have h5 : (l.take (i + 1)).flatten = (l.take i).flatten ++ l[i] := by
        rw [List.take_succ_eq_append_getElem hi, List.flatten_append, List.flatten_cons, List.flatten_nil, List.append_nil]
      unfold slices_Concat_byte_byte_L1_s
      simp only
      rw [dec_t (by omega), cond_true, getI_at hi, Option.bind_some, ← h5, gd_fits1 (by omega), wrap_id (by omega) (by omega), succ_cast]
    · unfold slices_Concat_byte_byte_L1_s
      simp only
      rw [dec_f (by omega), cond_false, List.take_length]
  rw [e1, Option.bind_some, gd_true (by unfold growB; exact dec_t ⟨by omega, by omega, by omega, by omega⟩), e2, Option.bind_some]

end Go.Proofs.Ytachollgbplikaa
