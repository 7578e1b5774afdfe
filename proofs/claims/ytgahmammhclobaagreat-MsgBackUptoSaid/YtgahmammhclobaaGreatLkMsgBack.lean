import Derived.Test.YtgahmammhclobaaGreatJ5
import Derived.Test.YtgahmammhclobaaGreatXt
set_option linter.all false
namespace Go.Proofs.YtgahmammhclobaaGreat.msgBack
theorem ownK:ownKnob Tryz.prog.godebug=none:=by kernel_rfl
theorem laidOut:laidOutB Tryz.prog=true:=by kernel_rfl
end Go.Proofs.YtgahmammhclobaaGreat.msgBack
