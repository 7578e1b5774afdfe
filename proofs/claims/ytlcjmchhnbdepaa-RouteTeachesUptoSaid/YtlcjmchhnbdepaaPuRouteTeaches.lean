/- The law RouteTeaches: what it owes, out of what was shown of its Lean function. -/
import Derived.Test.YtlcjmchhnbdepaaJ5
import Derived.Test.YtlcjmchhnbdepaaXrRouteTeaches
import Derived.Test.YtlcjmchhnbdepaaRa
set_option linter.all false
set_option linter.unusedSimpArgs false
set_option maxRecDepth 20000
namespace Go.Proofs.Ytlcjmchhnbdepaa.routeTeaches
theorem pure : WLaw (wcalls atab 4) 3 [.int .i64, .list (.int .i64), .int .i64, .int .i64] 1048576 := by
  intro ds h hb
  obtain ⟨d0, ds, rfl, h, x0, e0, b0, o0⟩ := are_cons' Rt_I h
  obtain ⟨d1, ds, rfl, h, x1, e1, b1, o1⟩ := are_cons' (Rt_L Rt_I R_I rfl) h
  obtain ⟨d2, ds, rfl, h, x2, e2, b2, o2⟩ := are_cons' Rt_I h
  obtain ⟨d3, ds, rfl, h, x3, e3, b3, o3⟩ := are_cons' Rt_I h
  obtain rfl := are_nil h
  simp only [D.bulks] at hb
  have hF := osmosislaw21_RouteTeaches_true x0 x1 x2 x3 o0 o1 o2 o3 (by omega)
  have ea : encArgs [.int .i64, .list (.int .i64), .int .i64, .int .i64] [d0, d1, d2, d3] = [(.int .i64 x0), (l_I x1), (.int .i64 x2), (.int .i64 x3)] := by
    simp only [encArgs, encArg, e0, e1, e2, e3, List.headD_cons]
    try rfl
  have hs := s_osmosislaw21_RouteTeaches 0 hF
  rw [← ea] at hs
  exact ⟨_, hs⟩
end Go.Proofs.Ytlcjmchhnbdepaa.routeTeaches
