import Derived.Test.YtkedeiklmpkgkaaJ5
import Derived.Test.YtkedeiklmpkgkaaRows
import Derived.Test.YtkedeiklmpkgkaaLlSessionLast
import Derived.Test.YtkedeiklmpkgkaaLpSessionLast
set_option linter.all false
set_option linter.unusedSimpArgs false
namespace Go.Proofs.Ytkedeiklmpkgkaa.sessionLast
open Go.ChangeShapes Go.WideShapes Go.ChangeAt Go.RowKit
theorem proved:Rows.SessionLastUptoSaid :=
 OpenClaim.holds_of_cond 3 Try.f3 rfl rfl rfl rfl rfl rfl rfl ⟨rfl,rfl,rfl,rfl,rfl⟩ rfl rfl rfl rfl rfl Gy Try.func3 EY IL IQ
  (λos started H enc _ F0=>lifted os started H enc F0)
#print axioms proved
end Go.Proofs.Ytkedeiklmpkgkaa.sessionLast
namespace Go.Proofs.Ytkedeiklmpkgkaa
theorem sessionLast_holds:Rows.SessionLastUptoSaid:=sessionLast.proved
end Go.Proofs.Ytkedeiklmpkgkaa
