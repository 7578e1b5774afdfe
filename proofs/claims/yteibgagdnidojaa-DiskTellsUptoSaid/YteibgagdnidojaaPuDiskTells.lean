/- The law DiskTells: what it owes, out of what was shown of its Lean function. -/
import Derived.Test.YteibgagdnidojaaJ5
import Derived.Test.YteibgagdnidojaaXrDiskTells
import Derived.Test.YteibgagdnidojaaD3
set_option linter.all false
set_option linter.unusedSimpArgs false
set_option maxRecDepth 20000
namespace Go.Proofs.Yteibgagdnidojaa.diskTells
theorem pure : WLaw (wcalls atab 5) 20 [.list (.agg [(.int .i64), (.int .i64), (.list (.list (.int .u8)))])] 1048576 := by
  intro ds h hb
  obtain ⟨d0, ds, rfl, h, x0, e0, b0, o0⟩ := are_cons' (Rt_L Rt_osmosislaw4_Raw R_osmosislaw4_Raw rfl) h
  obtain rfl := are_nil h
  simp only [D.bulks] at hb
  have hF := osmosislaw4_DiskTells_true x0 o0 (by omega)
  have ea : encArgs [.list (.agg [(.int .i64), (.int .i64), (.list (.list (.int .u8)))])] [d0] = [(l_osmosislaw4_Raw x0)] := by
    simp only [encArgs, encArg, e0, List.headD_cons]
    rfl
  have hs := s_osmosislaw4_DiskTells 0 hF
  rw [← ea] at hs
  exact ⟨_, hs⟩
end Go.Proofs.Yteibgagdnidojaa.diskTells
