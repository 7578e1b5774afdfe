/- The law SessionTells: what its parameters are read as. -/
import Derived.Test.YteibgagdnidojaaJ5
import Derived.Test.YteibgagdnidojaaXs
set_option linter.all false
set_option linter.unusedSimpArgs false
set_option maxRecDepth 20000
namespace Go.Proofs.Yteibgagdnidojaa
def bk_osmosislaw7_Raw (x : osmosislaw7_Raw) : Nat := bk1 x.Client + bk1 x.Seq + bk1 x.Why + bk1 x.Value + 1
def ok_osmosislaw7_Raw (x : osmosislaw7_Raw) : Prop := okI x.Client ∧ okI x.Seq ∧ okI x.Why ∧ okI x.Value
theorem Rt_osmosislaw7_Raw : Rt (.agg [(.int .i64), (.int .i64), (.int .i64), (.int .i64)]) e_osmosislaw7_Raw bk_osmosislaw7_Raw ok_osmosislaw7_Raw := Rt_of (fun _ => rfl) fun l h => by
  obtain ⟨d0, l, rfl, h, x0, e0, b0, o0⟩ := are_cons' Rt_I h
  obtain ⟨d1, l, rfl, h, x1, e1, b1, o1⟩ := are_cons' Rt_I h
  obtain ⟨d2, l, rfl, h, x2, e2, b2, o2⟩ := are_cons' Rt_I h
  obtain ⟨d3, l, rfl, h, x3, e3, b3, o3⟩ := are_cons' Rt_I h
  obtain rfl := are_nil h
  exact ⟨⟨x0, x1, x2, x3⟩, by simp only [encSs, e0, e1, e2, e3]; rfl, by simp only [bk_osmosislaw7_Raw, D.bulks]; omega, o0, o1, o2, o3⟩
end Go.Proofs.Yteibgagdnidojaa
