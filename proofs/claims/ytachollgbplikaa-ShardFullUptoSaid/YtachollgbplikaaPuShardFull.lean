/- The law ShardFull: what it owes, out of what was shown of its Lean function. -/
import Derived.Test.YtachollgbplikaaJ5
import Derived.Test.YtachollgbplikaaXrShardFull
import Derived.Test.YtachollgbplikaaE5
set_option linter.all false
set_option linter.unusedSimpArgs false
set_option maxRecDepth 20000
namespace Go.Proofs.Ytachollgbplikaa.shardFull
theorem pure : WLaw (wcalls atab 10) 19 [.int .i64, .int .i64, .int .i64] 1048576 := by
  intro ds h hb
  obtain ⟨d0, ds, rfl, h, x0, e0, b0, o0⟩ := are_cons' Rt_I h
  obtain ⟨d1, ds, rfl, h, x1, e1, b1, o1⟩ := are_cons' Rt_I h
  obtain ⟨d2, ds, rfl, h, x2, e2, b2, o2⟩ := are_cons' Rt_I h
  obtain rfl := are_nil h
  simp only [D.bulks] at hb
  have hF := osmosislaw8_ShardFull_true x0 x1 x2 o0 o1 o2 (by omega)
  have ea : encArgs [.int .i64, .int .i64, .int .i64] [d0, d1, d2] = [(.int .i64 x0), (.int .i64 x1), (.int .i64 x2)] := by
    simp only [encArgs, encArg, e0, e1, e2, List.headD_cons]
    try rfl
  have hs := s_osmosislaw8_ShardFull 0 hF
  rw [← ea] at hs
  exact ⟨_, hs⟩
end Go.Proofs.Ytachollgbplikaa.shardFull
