import Derived.Test.YtkedeiklmpkgkaaJ5
import Derived.Test.YtkedeiklmpkgkaaRows
import Derived.Test.YtkedeiklmpkgkaaLlShardImage
import Derived.Test.YtkedeiklmpkgkaaLpShardImage
set_option linter.all false
set_option linter.unusedSimpArgs false
namespace Go.Proofs.Ytkedeiklmpkgkaa.shardImage
open Go.ChangeShapes Go.WideShapes Go.ChangeAt Go.RowKit
theorem proved:Rows.ShardImageUptoSaid :=
 OpenClaim.holds_of_cond 11 Try.f11 rfl rfl rfl rfl rfl rfl rfl ⟨rfl,rfl,rfl,rfl,rfl⟩ rfl rfl rfl rfl rfl Zx Try.func11 WX aaS aaT
  (λos started H enc _ F0=>lifted os started H enc F0)
#print axioms proved
end Go.Proofs.Ytkedeiklmpkgkaa.shardImage
namespace Go.Proofs.Ytkedeiklmpkgkaa
theorem shardImage_holds:Rows.ShardImageUptoSaid:=shardImage.proved
end Go.Proofs.Ytkedeiklmpkgkaa
