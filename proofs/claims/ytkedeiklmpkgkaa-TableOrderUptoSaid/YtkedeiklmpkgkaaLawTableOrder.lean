import Derived.Test.YtkedeiklmpkgkaaJ5
import Derived.Test.YtkedeiklmpkgkaaRows
import Derived.Test.YtkedeiklmpkgkaaLlTableOrder
import Derived.Test.YtkedeiklmpkgkaaLpTableOrder
set_option linter.all false
set_option linter.unusedSimpArgs false
namespace Go.Proofs.Ytkedeiklmpkgkaa.tableOrder
open Go.ChangeShapes Go.WideShapes Go.ChangeAt Go.RowKit
theorem proved:Rows.TableOrderUptoSaid :=
 OpenClaim.holds_of_cond 10 Try.f10 rfl rfl rfl rfl rfl rfl rfl ⟨rfl,rfl,rfl,rfl,rfl⟩ rfl rfl rfl rfl rfl Pm Try.func10 M6 Q_ Ra
  (λos started H enc _ F0=>lifted os started H enc F0)
#print axioms proved
end Go.Proofs.Ytkedeiklmpkgkaa.tableOrder
namespace Go.Proofs.Ytkedeiklmpkgkaa
theorem tableOrder_holds:Rows.TableOrderUptoSaid:=tableOrder.proved
end Go.Proofs.Ytkedeiklmpkgkaa
