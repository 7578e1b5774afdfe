/- The law ShardFull, where what it reads is of bulk at most 1048576: what was shown in V, laid into the row. -/
import Derived.Test.YtachollgbplikaaJ5
import Derived.Test.YtachollgbplikaaRows
import Derived.Test.YtachollgbplikaaLlShardFull
import Derived.Test.YtachollgbplikaaLpShardFull
set_option linter.all false
set_option linter.unusedSimpArgs false
namespace Go.Proofs.Ytachollgbplikaa.shardFull
open Go.ChangeShapes Go.WideShapes Go.ChangeAt Go.RowKit

theorem proved : Rows.ShardFullUptoSaid :=
  OpenClaim.holds_of_cond 19 Try.f19 rfl rfl rfl rfl rfl rfl rfl ⟨rfl, rfl, rfl, rfl, rfl⟩ rfl rfl rfl rfl rfl p_named Try.func19 p_closed p_inst p_wrap
    (fun os started H enc _ F0 => lifted os started H enc F0)

#print axioms proved
end Go.Proofs.Ytachollgbplikaa.shardFull

namespace Go.Proofs.Ytachollgbplikaa
/-- The row, under a short name, for the claim. -/
theorem shardFull_holds : Rows.ShardFullUptoSaid := shardFull.proved
end Go.Proofs.Ytachollgbplikaa
