import Derived.Test.YtachollgbplikaaJ5
import Derived.Test.YtachollgbplikaaRows
import Derived.Test.YtachollgbplikaaLlShardTells
import Derived.Test.YtachollgbplikaaLpShardTells
set_option linter.all false
set_option linter.unusedSimpArgs false
namespace Go.Proofs.Ytachollgbplikaa.shardTells
open Go.ChangeShapes Go.WideShapes Go.ChangeAt Go.RowKit
theorem proved:Rows.ShardTellsUptoSaid :=
  OpenClaim.holds_of_cond 21 Try.f21 rfl rfl rfl rfl rfl rfl rfl ⟨rfl,rfl,rfl,rfl,rfl⟩ rfl rfl rfl rfl rfl p_named Try.func21 p_closed p_inst p_wrap
    (fun os started H enc _ F0=>lifted os started H enc F0)
#print axioms proved
end Go.Proofs.Ytachollgbplikaa.shardTells
namespace Go.Proofs.Ytachollgbplikaa
theorem shardTells_holds:Rows.ShardTellsUptoSaid:=shardTells.proved
end Go.Proofs.Ytachollgbplikaa
