import Derived.Test.YtachollgbplikaaJ5
import Derived.Test.YtachollgbplikaaXt
set_option linter.all false
namespace Go.Proofs.Ytachollgbplikaa.shardOnce
theorem ownK:ownKnob Try.prog.godebug=none:=by kernel_rfl
theorem laidOut:laidOutB Try.prog=true:=by kernel_rfl
end Go.Proofs.Ytachollgbplikaa.shardOnce
