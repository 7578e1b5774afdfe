/- The law ShardFull: what its parameters are read as. -/
import Derived.Test.YtachollgbplikaaJ5
import Derived.Test.YtachollgbplikaaXs
set_option linter.all false
set_option linter.unusedSimpArgs false
set_option maxRecDepth 20000
namespace Go.Proofs.Ytachollgbplikaa
end Go.Proofs.Ytachollgbplikaa
