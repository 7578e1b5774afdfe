/- The law TableValue: what it owes, out of what was shown of its Lean function. -/
import Derived.Test.YtachollgbplikaaJ5
import Derived.Test.YtachollgbplikaaXrTableValue
import Derived.Test.YtachollgbplikaaT5
set_option linter.all false
set_option linter.unusedSimpArgs false
set_option maxRecDepth 20000
namespace Go.Proofs.Ytachollgbplikaa.tableValue
theorem pure : WLaw (wcalls atab 8) 16 [.list (.int .i64), .list (.agg [(.int .i64), (.int .i64), (.int .i64), (.int .i64), (.int .i64), (.int .i64), (.int .i64), .str]), .list (.agg [(.int .i64), (.int .i64), (.int .i64), (.int .i64), (.int .i64), (.int .i64), (.int .i64), .str])] 1048576 := by
  intro ds h hb
  obtain ⟨d0, ds, rfl, h, x0, e0, b0, o0⟩ := are_cons' (Rt_L Rt_I R_I rfl) h
  obtain ⟨d1, ds, rfl, h, x1, e1, b1, o1⟩ := are_cons' (Rt_L Rt_osmosishand_RawOp R_osmosishand_RawOp rfl) h
  obtain ⟨d2, ds, rfl, h, x2, e2, b2, o2⟩ := are_cons' (Rt_L Rt_osmosishand_RawOp R_osmosishand_RawOp rfl) h
  obtain rfl := are_nil h
  simp only [D.bulks] at hb
  have hF := osmosislaw6_TableValue_true x0 x1 x2 o0 o1 o2 (by omega)
  have ea : encArgs [.list (.int .i64), .list (.agg [(.int .i64), (.int .i64), (.int .i64), (.int .i64), (.int .i64), (.int .i64), (.int .i64), .str]), .list (.agg [(.int .i64), (.int .i64), (.int .i64), (.int .i64), (.int .i64), (.int .i64), (.int .i64), .str])] [d0, d1, d2] = [(l_I x0), (l_osmosishand_RawOp x1), (l_osmosishand_RawOp x2)] := by
    simp only [encArgs, encArg, e0, e1, e2, List.headD_cons]
    rfl
  have hs := s_osmosislaw6_TableValue 0 hF
  rw [← ea] at hs
  exact ⟨_, hs⟩
end Go.Proofs.Ytachollgbplikaa.tableValue
