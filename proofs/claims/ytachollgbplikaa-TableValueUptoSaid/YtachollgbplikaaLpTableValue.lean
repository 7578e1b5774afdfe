/- The law TableValue: what the kernel runs of its row (a text of its own: it takes much memory). -/
import Derived.Test.YtachollgbplikaaJ5
import Derived.Test.YtachollgbplikaaRows
set_option linter.all false
namespace Go.Proofs.Ytachollgbplikaa.tableValue
open Go.ChangeShapes Go.WideShapes Go.ChangeAt Go.RowKit
theorem p_named : Try.pinned.checked.prog.funcNamed Rows.tableValueUptoRow.func = some 16 := by kernel_rfl
theorem p_inst : Try.f16.isInstance Try.pinned.checked.prog Rows.tableValueUptoRow.origin Rows.tableValueUptoRow.targs := of_decide_eq_true (by kernel_rfl)
theorem p_wrap : Try.f16.isWrapper Try.pinned.checked.prog Rows.tableValueUptoRow.wrapper Rows.tableValueUptoRow.mainSum := by unfold Func.isWrapper; first | (rw [if_pos (by decide +kernel)]; kernel_rfl) | (rw [if_neg (by decide +kernel)]; exact ⟨rfl, rfl⟩)
theorem p_closed : joinedFacts Try.pinned.checked.prog 16 Try.f16 (Rows.OpenSpec.upto Rows.tableValueSpec).bare Rows.tableValueUptoRow = true := by kernel_rfl
end Go.Proofs.Ytachollgbplikaa.tableValue
