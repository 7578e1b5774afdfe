/- The law RouteTeaches, where what it reads is of bulk at most 1048576: what was shown in V, laid into the row. -/
import Derived.Test.YtlcjmchhnbdepaaJ5
import Derived.Test.YtlcjmchhnbdepaaRows
import Derived.Test.YtlcjmchhnbdepaaLlRouteTeaches
import Derived.Test.YtlcjmchhnbdepaaLpRouteTeaches
set_option linter.all false
set_option linter.unusedSimpArgs false
namespace Go.Proofs.Ytlcjmchhnbdepaa.routeTeaches
open Go.ChangeShapes Go.WideShapes Go.ChangeAt Go.RowKit

theorem proved : Rows.RouteTeachesUptoSaid :=
  OpenClaim.holds_of_cond 3 Try.f3 rfl rfl rfl rfl rfl rfl rfl ⟨rfl, rfl, rfl, rfl, rfl⟩ rfl rfl rfl rfl rfl p_named Try.func3 p_closed p_inst p_wrap
    (fun os started H enc _ F0 => lifted os started H enc F0)

#print axioms proved
end Go.Proofs.Ytlcjmchhnbdepaa.routeTeaches

namespace Go.Proofs.Ytlcjmchhnbdepaa
/-- The row, under a short name, for the claim. -/
theorem routeTeaches_holds : Rows.RouteTeachesUptoSaid := routeTeaches.proved
end Go.Proofs.Ytlcjmchhnbdepaa
