/- The law DiskKeeps: what the kernel runs of its row (a text of its own: it takes much memory). -/
import Derived.Test.YteibgagdnidojaaJ5
import Derived.Test.YteibgagdnidojaaRows
set_option linter.all false
namespace Go.Proofs.Yteibgagdnidojaa.diskKeeps
open Go.ChangeShapes Go.WideShapes Go.ChangeAt Go.RowKit
theorem p_named : Try.pinned.checked.prog.funcNamed Rows.diskKeepsUptoRow.func = some 16 := by kernel_rfl
theorem p_inst : Try.f16.isInstance Try.pinned.checked.prog Rows.diskKeepsUptoRow.origin Rows.diskKeepsUptoRow.targs := of_decide_eq_true (by kernel_rfl)
theorem p_wrap : Try.f16.isWrapper Try.pinned.checked.prog Rows.diskKeepsUptoRow.wrapper Rows.diskKeepsUptoRow.mainSum := by unfold Func.isWrapper; first | (rw [if_pos (by decide +kernel)]; kernel_rfl) | (rw [if_neg (by decide +kernel)]; exact ⟨rfl, rfl⟩)
theorem p_closed : joinedFacts Try.pinned.checked.prog 16 Try.f16 (Rows.OpenSpec.upto Rows.diskKeepsSpec).bare Rows.diskKeepsUptoRow = true := by kernel_rfl
end Go.Proofs.Yteibgagdnidojaa.diskKeeps
