/- The law ShardFull: what the kernel runs by itself (a text of its own: it takes much memory). -/
import Derived.Test.YtachollgbplikaaJ5
import Derived.Test.YtachollgbplikaaXt
set_option linter.all false
namespace Go.Proofs.Ytachollgbplikaa.shardFull
theorem ownK : ownKnob Try.prog.godebug = none := by kernel_rfl
theorem laidOut : laidOutB Try.prog = true := by kernel_rfl
end Go.Proofs.Ytachollgbplikaa.shardFull
