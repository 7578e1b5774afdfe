import Derived.Test.YtkedeiklmpkgkaaJ5
import Derived.Test.YtkedeiklmpkgkaaGa
set_option linter.all false
namespace Go.Proofs.Ytkedeiklmpkgkaa.shardImage
theorem acI:ownKnob Try.prog.godebug=none:=by kernel_rfl
theorem laidOut:laidOutB Try.prog=true:=by kernel_rfl
end Go.Proofs.Ytkedeiklmpkgkaa.shardImage
