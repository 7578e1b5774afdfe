/- The law SessionTells, where what it reads is of bulk at most 1048576: what was shown in V, laid into the row. -/
import Derived.Test.YteibgagdnidojaaJ5
import Derived.Test.YteibgagdnidojaaRows
import Derived.Test.YteibgagdnidojaaLlSessionTells
import Derived.Test.YteibgagdnidojaaLpSessionTells
set_option linter.all false
set_option linter.unusedSimpArgs false
namespace Go.Proofs.Yteibgagdnidojaa.sessionTells
open Go.ChangeShapes Go.WideShapes Go.ChangeAt Go.RowKit

theorem proved : Rows.SessionTellsUptoSaid :=
  OpenClaim.holds_of_cond 14 Try.f14 rfl rfl rfl rfl rfl rfl rfl ⟨rfl, rfl, rfl, rfl, rfl⟩ rfl rfl rfl rfl rfl p_named Try.func14 p_closed p_inst p_wrap
    (fun os started H enc _ F0 => lifted os started H enc F0)

#print axioms proved
end Go.Proofs.Yteibgagdnidojaa.sessionTells

namespace Go.Proofs.Yteibgagdnidojaa
/-- The row, under a short name, for the claim. -/
theorem sessionTells_holds : Rows.SessionTellsUptoSaid := sessionTells.proved
end Go.Proofs.Yteibgagdnidojaa
