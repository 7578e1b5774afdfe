/- The law FrameKnown, which has no parameters: the machine runs it in the kernel. -/
import Derived.Test.YtkedeiklmpkgkaaFg
set_option linter.all false
set_option linter.unusedSimpArgs false
set_option maxRecDepth 100000
namespace Go.Proofs.Ytkedeiklmpkgkaa.frameKnown
theorem run : tellsTrue (bcall gF atabT 100000 40 5 [] Heap.empty) = true := by kernel_rfl
end Go.Proofs.Ytkedeiklmpkgkaa.frameKnown
