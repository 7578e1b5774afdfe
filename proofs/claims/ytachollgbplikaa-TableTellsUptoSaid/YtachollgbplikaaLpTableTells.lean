/- The law TableTells: what the kernel runs of its row (a text of its own: it takes much memory). -/
import Derived.Test.YtachollgbplikaaJ5
import Derived.Test.YtachollgbplikaaRows
set_option linter.all false
namespace Go.Proofs.Ytachollgbplikaa.tableTells
open Go.ChangeShapes Go.WideShapes Go.ChangeAt Go.RowKit
theorem p_named : Try.pinned.checked.prog.funcNamed Rows.tableTellsUptoRow.func = some 15 := by kernel_rfl
theorem p_inst : Try.f15.isInstance Try.pinned.checked.prog Rows.tableTellsUptoRow.origin Rows.tableTellsUptoRow.targs := of_decide_eq_true (by kernel_rfl)
theorem p_wrap : Try.f15.isWrapper Try.pinned.checked.prog Rows.tableTellsUptoRow.wrapper Rows.tableTellsUptoRow.mainSum := by unfold Func.isWrapper; first | (rw [if_pos (by decide +kernel)]; kernel_rfl) | (rw [if_neg (by decide +kernel)]; exact ⟨rfl, rfl⟩)
theorem p_closed : joinedFacts Try.pinned.checked.prog 15 Try.f15 (Rows.OpenSpec.upto Rows.tableTellsSpec).bare Rows.tableTellsUptoRow = true := by kernel_rfl
end Go.Proofs.Ytachollgbplikaa.tableTells
