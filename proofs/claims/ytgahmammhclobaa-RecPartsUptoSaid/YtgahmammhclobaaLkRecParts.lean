import Derived.Test.YtgahmammhclobaaJ5
import Derived.Test.YtgahmammhclobaaXt
set_option linter.all false
namespace Go.Proofs.Ytgahmammhclobaa.recParts
theorem ownK:ownKnob Try.prog.godebug=none:=by kernel_rfl
theorem laidOut:laidOutB Try.prog=true:=by kernel_rfl
end Go.Proofs.Ytgahmammhclobaa.recParts
