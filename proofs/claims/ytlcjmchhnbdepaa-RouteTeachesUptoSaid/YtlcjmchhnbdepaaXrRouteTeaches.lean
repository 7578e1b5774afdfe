/- The law RouteTeaches: what its parameters are read as. -/
import Derived.Test.YtlcjmchhnbdepaaJ5
import Derived.Test.YtlcjmchhnbdepaaXs
set_option linter.all false
set_option linter.unusedSimpArgs false
set_option maxRecDepth 20000
namespace Go.Proofs.Ytlcjmchhnbdepaa
end Go.Proofs.Ytlcjmchhnbdepaa
