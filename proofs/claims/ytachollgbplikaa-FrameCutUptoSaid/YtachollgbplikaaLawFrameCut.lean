/- The law FrameCut, where what it reads is of bulk at most 1048576: what was shown in V, laid into the row. -/
import Derived.Test.YtachollgbplikaaAm33
import Derived.Test.YtachollgbplikaaRows
import Derived.Test.YtachollgbplikaaLlFrameCut
import Derived.Test.YtachollgbplikaaLpFrameCut
set_option linter.all false
set_option linter.unusedSimpArgs false
namespace Go.Proofs.Ytachollgbplikaa.frameCut
open Go.ChangeShapes Go.WideShapes Go.ChangeAt Go.RowKit

theorem proved : Rows.FrameCutUptoSaid :=
  OpenClaim.holds_of_cond 5 Try.f5 rfl rfl rfl rfl rfl rfl rfl ⟨rfl, rfl, rfl, rfl, rfl⟩ rfl rfl rfl rfl rfl p_named Try.func5 p_closed p_inst p_wrap
    (fun os started H enc _ F0 => lifted os started H enc F0)

#print axioms proved
end Go.Proofs.Ytachollgbplikaa.frameCut

namespace Go.Proofs.Ytachollgbplikaa
/-- The row, under a short name, for the claim. -/
theorem frameCut_holds : Rows.FrameCutUptoSaid := frameCut.proved
end Go.Proofs.Ytachollgbplikaa
