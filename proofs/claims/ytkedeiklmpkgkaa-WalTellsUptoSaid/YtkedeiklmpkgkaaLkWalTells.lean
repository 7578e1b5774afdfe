import Derived.Test.YtkedeiklmpkgkaaJ5
import Derived.Test.YtkedeiklmpkgkaaFa
set_option linter.all false
namespace Go.Proofs.Ytkedeiklmpkgkaa.walTells
theorem aa1:ownKnob Try.prog.godebug=none:=by kernel_rfl
theorem laidOut:laidOutB Try.prog=true:=by kernel_rfl
end Go.Proofs.Ytkedeiklmpkgkaa.walTells
