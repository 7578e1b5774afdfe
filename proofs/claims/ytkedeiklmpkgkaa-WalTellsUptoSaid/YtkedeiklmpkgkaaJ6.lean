import Derived.Test.YtkedeiklmpkgkaaJ5
import Derived.Lib.Overlaps
import Derived.Laws.Externs
set_option linter.all false
namespace Go.Proofs.Ytkedeiklmpkgkaa
section
variable {sz i n o:Nat} {c new:List AV} (hi:i<n) (hc:o+n*sz≤c.length) (hn:new.length=sz)
include hi hc hn
end
end Go.Proofs.Ytkedeiklmpkgkaa
