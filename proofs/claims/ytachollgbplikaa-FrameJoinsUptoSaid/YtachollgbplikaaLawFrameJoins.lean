/- The law FrameJoins, where what it reads is of bulk at most 1048576: what was shown in V, laid into the row. -/
import Derived.Test.YtachollgbplikaaAm33
import Derived.Test.YtachollgbplikaaRows
import Derived.Test.YtachollgbplikaaLlFrameJoins
import Derived.Test.YtachollgbplikaaLpFrameJoins
set_option linter.all false
set_option linter.unusedSimpArgs false
namespace Go.Proofs.Ytachollgbplikaa.frameJoins
open Go.ChangeShapes Go.WideShapes Go.ChangeAt Go.RowKit

theorem proved : Rows.FrameJoinsUptoSaid :=
  OpenClaim.holds_of_cond 6 Try.f6 rfl rfl rfl rfl rfl rfl rfl ⟨rfl, rfl, rfl, rfl, rfl⟩ rfl rfl rfl rfl rfl p_named Try.func6 p_closed p_inst p_wrap
    (fun os started H enc _ F0 => lifted os started H enc F0)

#print axioms proved
end Go.Proofs.Ytachollgbplikaa.frameJoins

namespace Go.Proofs.Ytachollgbplikaa
/-- The row, under a short name, for the claim. -/
theorem frameJoins_holds : Rows.FrameJoinsUptoSaid := frameJoins.proved
end Go.Proofs.Ytachollgbplikaa
