import Derived.Test.YtohoggieaanllaaGreatJ5
import Derived.Test.YtohoggieaanllaaGreatXt
set_option linter.all false
namespace Go.Proofs.YtohoggieaanllaaGreat.netOrder
theorem ay5:ownKnob Tryz.prog.godebug=none:=by kernel_rfl
theorem laidOut:laidOutB Tryz.prog=true:=by kernel_rfl
end Go.Proofs.YtohoggieaanllaaGreat.netOrder
