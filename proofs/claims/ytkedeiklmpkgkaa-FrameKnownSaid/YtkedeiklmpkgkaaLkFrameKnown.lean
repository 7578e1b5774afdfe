/- The law FrameKnown: what the kernel runs by itself. -/
import Derived.Test.YtkedeiklmpkgkaaFg
set_option linter.all false
set_option linter.unusedSimpArgs false
set_option maxRecDepth 100000
namespace Go.Proofs.Ytkedeiklmpkgkaa.frameKnown
theorem ownK : ownKnob Try.prog.godebug = none := by kernel_rfl
theorem laidOut : laidOutB Try.prog = true := by kernel_rfl
end Go.Proofs.Ytkedeiklmpkgkaa.frameKnown
