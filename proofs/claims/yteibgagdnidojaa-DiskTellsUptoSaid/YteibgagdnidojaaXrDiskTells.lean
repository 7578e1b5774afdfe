/- The law DiskTells: what its parameters are read as. -/
import Derived.Test.YteibgagdnidojaaJ5
import Derived.Test.YteibgagdnidojaaXs
set_option linter.all false
set_option linter.unusedSimpArgs false
set_option maxRecDepth 20000
namespace Go.Proofs.Yteibgagdnidojaa
def bk_osmosislaw4_Raw (x : osmosislaw4_Raw) : Nat := bk1 x.What + bk1 x.N + (bkL (bkL bk1)) x.Parts + 1
def ok_osmosislaw4_Raw (x : osmosislaw4_Raw) : Prop := okI x.What ∧ okI x.N ∧ (okL (okL okT)) x.Parts
theorem Rt_osmosislaw4_Raw : Rt (.agg [(.int .i64), (.int .i64), (.list (.list (.int .u8)))]) e_osmosislaw4_Raw bk_osmosislaw4_Raw ok_osmosislaw4_Raw := Rt_of (fun _ => rfl) fun l h => by
  obtain ⟨d0, l, rfl, h, x0, e0, b0, o0⟩ := are_cons' Rt_I h
  obtain ⟨d1, l, rfl, h, x1, e1, b1, o1⟩ := are_cons' Rt_I h
  obtain ⟨d2, l, rfl, h, x2, e2, b2, o2⟩ := are_cons' (Rt_L (Rt_L Rt_B R_B rfl) R_LB rfl) h
  obtain rfl := are_nil h
  exact ⟨⟨x0, x1, x2⟩, by simp only [encSs, e0, e1, e2]; rfl, by simp only [bk_osmosislaw4_Raw, D.bulks]; omega, o0, o1, o2⟩
end Go.Proofs.Yteibgagdnidojaa
