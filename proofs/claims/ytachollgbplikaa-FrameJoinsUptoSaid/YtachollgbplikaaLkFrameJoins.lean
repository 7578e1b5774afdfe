/- The law FrameJoins: what the kernel runs by itself (a text of its own: it takes much memory). -/
import Derived.Test.YtachollgbplikaaAm33
import Derived.Test.YtachollgbplikaaVt
set_option linter.all false
namespace Go.Proofs.Ytachollgbplikaa.frameJoins
theorem ownK : ownKnob Try.prog.godebug = none := by kernel_rfl
theorem laidOut : laidOutB Try.prog = true := by kernel_rfl
theorem known_run : tellsTrue (bcall (fun _ => none) atab 100000 40 25 [] Heap.empty) = true := by kernel_rfl
end Go.Proofs.Ytachollgbplikaa.frameJoins
