import Derived.Test.YtohoggieaanllaaGreatJ6
import Derived.Test.YtohoggieaanllaaGreatY3
set_option linter.all false
namespace Go.Proofs.YtohoggieaanllaaGreat.netTells
theorem aDz:ownKnob Tryz.prog.godebug=none:=by kernel_rfl
theorem laidOut:laidOutB Tryz.prog=true:=by kernel_rfl
end Go.Proofs.YtohoggieaanllaaGreat.netTells
