import Derived.Test.YtachollgbplikaaJ5
import Derived.Test.YtachollgbplikaaRows
import Derived.Test.YtachollgbplikaaLlShardOnce
import Derived.Test.YtachollgbplikaaLpShardOnce
set_option linter.all false
set_option linter.unusedSimpArgs false
namespace Go.Proofs.Ytachollgbplikaa.shardOnce
open Go.ChangeShapes Go.WideShapes Go.ChangeAt Go.RowKit
theorem proved:Rows.ShardOnceUptoSaid :=
  OpenClaim.holds_of_cond 18 Try.f18 rfl rfl rfl rfl rfl rfl rfl ⟨rfl,rfl,rfl,rfl,rfl⟩ rfl rfl rfl rfl rfl p_named Try.func18 p_closed p_inst p_wrap
    (fun os started H enc _ F0=>lifted os started H enc F0)
#print axioms proved
end Go.Proofs.Ytachollgbplikaa.shardOnce
namespace Go.Proofs.Ytachollgbplikaa
theorem shardOnce_holds:Rows.ShardOnceUptoSaid:=shardOnce.proved
end Go.Proofs.Ytachollgbplikaa
