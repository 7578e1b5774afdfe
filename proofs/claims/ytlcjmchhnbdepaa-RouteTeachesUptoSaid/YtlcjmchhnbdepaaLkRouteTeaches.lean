/- The law RouteTeaches: what the kernel runs by itself (a text of its own: it takes much memory). -/
import Derived.Test.YtlcjmchhnbdepaaJ5
import Derived.Test.YtlcjmchhnbdepaaXt
set_option linter.all false
namespace Go.Proofs.Ytlcjmchhnbdepaa.routeTeaches
theorem ownK : ownKnob Try.prog.godebug = none := by kernel_rfl
theorem laidOut : laidOutB Try.prog = true := by kernel_rfl
end Go.Proofs.Ytlcjmchhnbdepaa.routeTeaches
