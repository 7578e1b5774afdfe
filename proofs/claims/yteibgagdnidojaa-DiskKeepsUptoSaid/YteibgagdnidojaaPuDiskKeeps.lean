/- The law DiskKeeps: what it owes, out of what was shown of its Lean function. -/
import Derived.Test.YteibgagdnidojaaJ5
import Derived.Test.YteibgagdnidojaaXrDiskKeeps
import Derived.Test.YteibgagdnidojaaD2
set_option linter.all false
set_option linter.unusedSimpArgs false
set_option maxRecDepth 20000
namespace Go.Proofs.Yteibgagdnidojaa.diskKeeps
theorem pure : WLaw (wcalls atab 5) 16 [.list (.list (.int .u8)), .list (.list (.int .u8)), .list (.int .i64)] 1048576 := by
  intro ds h hb
  obtain ⟨d0, ds, rfl, h, x0, e0, b0, o0⟩ := are_cons' (Rt_L (Rt_L Rt_B R_B rfl) R_LB rfl) h
  obtain ⟨d1, ds, rfl, h, x1, e1, b1, o1⟩ := are_cons' (Rt_L (Rt_L Rt_B R_B rfl) R_LB rfl) h
  obtain ⟨d2, ds, rfl, h, x2, e2, b2, o2⟩ := are_cons' (Rt_L Rt_I R_I rfl) h
  obtain rfl := are_nil h
  simp only [D.bulks] at hb
  have hF := osmosislaw4_DiskKeeps_true x0 x1 x2 o0 o1 o2 (by omega)
  have ea : encArgs [.list (.list (.int .u8)), .list (.list (.int .u8)), .list (.int .i64)] [d0, d1, d2] = [(l_LB x0), (l_LB x1), (l_I x2)] := by
    simp only [encArgs, encArg, e0, e1, e2, List.headD_cons]
    rfl
  have hs := s_osmosislaw4_DiskKeeps 0 hF
  rw [← ea] at hs
  exact ⟨_, hs⟩
end Go.Proofs.Yteibgagdnidojaa.diskKeeps
