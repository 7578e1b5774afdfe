/- The law DiskTells, where what it reads is of bulk at most 1048576: what was shown in V, laid into the row. -/
import Derived.Test.YteibgagdnidojaaJ5
import Derived.Test.YteibgagdnidojaaRows
import Derived.Test.YteibgagdnidojaaLlDiskTells
import Derived.Test.YteibgagdnidojaaLpDiskTells
set_option linter.all false
set_option linter.unusedSimpArgs false
namespace Go.Proofs.Yteibgagdnidojaa.diskTells
open Go.ChangeShapes Go.WideShapes Go.ChangeAt Go.RowKit

theorem proved : Rows.DiskTellsUptoSaid :=
  OpenClaim.holds_of_cond 20 Try.f20 rfl rfl rfl rfl rfl rfl rfl ⟨rfl, rfl, rfl, rfl, rfl⟩ rfl rfl rfl rfl rfl p_named Try.func20 p_closed p_inst p_wrap
    (fun os started H enc _ F0 => lifted os started H enc F0)

#print axioms proved
end Go.Proofs.Yteibgagdnidojaa.diskTells

namespace Go.Proofs.Yteibgagdnidojaa
/-- The row, under a short name, for the claim. -/
theorem diskTells_holds : Rows.DiskTellsUptoSaid := diskTells.proved
end Go.Proofs.Yteibgagdnidojaa
