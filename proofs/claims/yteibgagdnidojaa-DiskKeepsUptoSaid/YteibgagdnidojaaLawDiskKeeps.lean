/- The law DiskKeeps, where what it reads is of bulk at most 1048576: what was shown in V, laid into the row. -/
import Derived.Test.YteibgagdnidojaaJ5
import Derived.Test.YteibgagdnidojaaRows
import Derived.Test.YteibgagdnidojaaLlDiskKeeps
import Derived.Test.YteibgagdnidojaaLpDiskKeeps
set_option linter.all false
set_option linter.unusedSimpArgs false
namespace Go.Proofs.Yteibgagdnidojaa.diskKeeps
open Go.ChangeShapes Go.WideShapes Go.ChangeAt Go.RowKit

theorem proved : Rows.DiskKeepsUptoSaid :=
  OpenClaim.holds_of_cond 16 Try.f16 rfl rfl rfl rfl rfl rfl rfl ⟨rfl, rfl, rfl, rfl, rfl⟩ rfl rfl rfl rfl rfl p_named Try.func16 p_closed p_inst p_wrap
    (fun os started H enc _ F0 => lifted os started H enc F0)

#print axioms proved
end Go.Proofs.Yteibgagdnidojaa.diskKeeps

namespace Go.Proofs.Yteibgagdnidojaa
/-- The row, under a short name, for the claim. -/
theorem diskKeeps_holds : Rows.DiskKeepsUptoSaid := diskKeeps.proved
end Go.Proofs.Yteibgagdnidojaa
