/- The law DiskKeeps: what its parameters are read as. -/
import Derived.Test.YteibgagdnidojaaJ5
import Derived.Test.YteibgagdnidojaaXs
set_option linter.all false
set_option linter.unusedSimpArgs false
set_option maxRecDepth 20000
namespace Go.Proofs.Yteibgagdnidojaa
end Go.Proofs.Yteibgagdnidojaa
