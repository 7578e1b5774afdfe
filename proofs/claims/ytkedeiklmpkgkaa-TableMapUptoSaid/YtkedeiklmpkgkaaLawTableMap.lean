import Derived.Test.YtkedeiklmpkgkaaJ5
import Derived.Test.YtkedeiklmpkgkaaRows
import Derived.Test.YtkedeiklmpkgkaaLlTableMap
import Derived.Test.YtkedeiklmpkgkaaLpTableMap
set_option linter.all false
set_option linter.unusedSimpArgs false
namespace Go.Proofs.Ytkedeiklmpkgkaa.tableMap
open Go.ChangeShapes Go.WideShapes Go.ChangeAt Go.RowKit
theorem proved:Rows.TableMapUptoSaid :=
 OpenClaim.holds_of_cond 9 Try.f9 rfl rfl rfl rfl rfl rfl rfl ⟨rfl,rfl,rfl,rfl,rfl⟩ rfl rfl rfl rfl rfl Ow Try.func9 Mf Qi Qj
  (λos started H enc _ F0=>lifted os started H enc F0)
#print axioms proved
end Go.Proofs.Ytkedeiklmpkgkaa.tableMap
namespace Go.Proofs.Ytkedeiklmpkgkaa
theorem tableMap_holds:Rows.TableMapUptoSaid:=tableMap.proved
end Go.Proofs.Ytkedeiklmpkgkaa
