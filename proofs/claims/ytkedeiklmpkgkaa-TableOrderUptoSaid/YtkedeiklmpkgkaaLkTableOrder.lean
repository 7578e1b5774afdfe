import Derived.Test.YtkedeiklmpkgkaaJ5
import Derived.Test.YtkedeiklmpkgkaaTc
set_option linter.all false
namespace Go.Proofs.Ytkedeiklmpkgkaa.tableOrder
theorem T9:ownKnob Try.prog.godebug=none:=by kernel_rfl
theorem laidOut:laidOutB Try.prog=true:=by kernel_rfl
end Go.Proofs.Ytkedeiklmpkgkaa.tableOrder
