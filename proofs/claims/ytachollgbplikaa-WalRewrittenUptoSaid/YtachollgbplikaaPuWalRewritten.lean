/- The law WalRewritten: what it owes, out of what was shown of its Lean function. -/
import Derived.Test.YtachollgbplikaaJ5
import Derived.Test.YtachollgbplikaaXrWalRewritten
import Derived.Test.YtachollgbplikaaF7
set_option linter.all false
set_option linter.unusedSimpArgs false
set_option maxRecDepth 20000
namespace Go.Proofs.Ytachollgbplikaa.walRewritten
theorem pure : WLaw (wcalls atab 9) 12 [.list (.list (.int .u8)), .list (.list (.int .u8)), .list (.list (.int .u8)), .int .i64] 1048576 := by
  intro ds h hb
  obtain ⟨d0, ds, rfl, h, x0, e0, b0, o0⟩ := are_cons' (Rt_L (Rt_L Rt_B R_B rfl) R_LB rfl) h
  obtain ⟨d1, ds, rfl, h, x1, e1, b1, o1⟩ := are_cons' (Rt_L (Rt_L Rt_B R_B rfl) R_LB rfl) h
  obtain ⟨d2, ds, rfl, h, x2, e2, b2, o2⟩ := are_cons' (Rt_L (Rt_L Rt_B R_B rfl) R_LB rfl) h
  obtain ⟨d3, ds, rfl, h, x3, e3, b3, o3⟩ := are_cons' Rt_I h
  obtain rfl := are_nil h
  simp only [D.bulks] at hb
  have hF := osmosislaw5_WalRewritten_true x0 x1 x2 x3 o0 o1 o2 o3 (by omega)
  have ea : encArgs [.list (.list (.int .u8)), .list (.list (.int .u8)), .list (.list (.int .u8)), .int .i64] [d0, d1, d2, d3] = [(l_LB x0), (l_LB x1), (l_LB x2), (.int .i64 x3)] := by
    simp only [encArgs, encArg, e0, e1, e2, e3, List.headD_cons]
    rfl
  have hs := s_osmosislaw5_WalRewritten 0 hF
  rw [← ea] at hs
  exact ⟨_, hs⟩
end Go.Proofs.Ytachollgbplikaa.walRewritten
