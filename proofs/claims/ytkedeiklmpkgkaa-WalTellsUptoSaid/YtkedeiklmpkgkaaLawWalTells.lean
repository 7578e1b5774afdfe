import Derived.Test.YtkedeiklmpkgkaaJ5
import Derived.Test.YtkedeiklmpkgkaaRows
import Derived.Test.YtkedeiklmpkgkaaLlWalTells
import Derived.Test.YtkedeiklmpkgkaaLpWalTells
set_option linter.all false
set_option linter.unusedSimpArgs false
namespace Go.Proofs.Ytkedeiklmpkgkaa.walTells
open Go.ChangeShapes Go.WideShapes Go.ChangeAt Go.RowKit
theorem proved:Rows.WalTellsUptoSaid :=
 OpenClaim.holds_of_cond 8 Try.f8 rfl rfl rfl rfl rfl rfl rfl ⟨rfl,rfl,rfl,rfl,rfl⟩ rfl rfl rfl rfl rfl Xy Try.func8 UJ YZ Y0
  (λos started H enc _ F0=>lifted os started H enc F0)
#print axioms proved
end Go.Proofs.Ytkedeiklmpkgkaa.walTells
namespace Go.Proofs.Ytkedeiklmpkgkaa
theorem walTells_holds:Rows.WalTellsUptoSaid:=walTells.proved
end Go.Proofs.Ytkedeiklmpkgkaa
