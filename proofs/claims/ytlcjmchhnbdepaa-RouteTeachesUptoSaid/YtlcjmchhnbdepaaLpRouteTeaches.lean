/- The law RouteTeaches: what the kernel runs of its row (a text of its own: it takes much memory). -/
import Derived.Test.YtlcjmchhnbdepaaJ5
import Derived.Test.YtlcjmchhnbdepaaRows
set_option linter.all false
namespace Go.Proofs.Ytlcjmchhnbdepaa.routeTeaches
open Go.ChangeShapes Go.WideShapes Go.ChangeAt Go.RowKit
theorem p_named : Try.pinned.checked.prog.funcNamed Rows.routeTeachesUptoRow.func = some 3 := by kernel_rfl
theorem p_inst : Try.f3.isInstance Try.pinned.checked.prog Rows.routeTeachesUptoRow.origin Rows.routeTeachesUptoRow.targs := of_decide_eq_true (by kernel_rfl)
theorem p_wrap : Try.f3.isWrapper Try.pinned.checked.prog Rows.routeTeachesUptoRow.wrapper Rows.routeTeachesUptoRow.mainSum := by unfold Func.isWrapper; first | (rw [if_pos (by decide +kernel)]; kernel_rfl) | (rw [if_neg (by decide +kernel)]; exact ⟨rfl, rfl⟩)
theorem p_closed : joinedFacts Try.pinned.checked.prog 3 Try.f3 (Rows.OpenSpec.upto Rows.routeTeachesSpec).bare Rows.routeTeachesUptoRow = true := by kernel_rfl
end Go.Proofs.Ytlcjmchhnbdepaa.routeTeaches
