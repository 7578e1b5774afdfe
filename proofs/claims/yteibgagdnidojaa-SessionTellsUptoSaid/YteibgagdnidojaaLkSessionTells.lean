/- The law SessionTells: what the kernel runs by itself (a text of its own: it takes much memory). -/
import Derived.Test.YteibgagdnidojaaJ5
import Derived.Test.YteibgagdnidojaaXt
set_option linter.all false
namespace Go.Proofs.Yteibgagdnidojaa.sessionTells
theorem ownK : ownKnob Try.prog.godebug = none := by kernel_rfl
theorem laidOut : laidOutB Try.prog = true := by kernel_rfl
end Go.Proofs.Yteibgagdnidojaa.sessionTells
