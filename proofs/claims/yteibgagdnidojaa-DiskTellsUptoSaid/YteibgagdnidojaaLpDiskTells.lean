/- The law DiskTells: what the kernel runs of its row (a text of its own: it takes much memory). -/
import Derived.Test.YteibgagdnidojaaJ5
import Derived.Test.YteibgagdnidojaaRows
set_option linter.all false
namespace Go.Proofs.Yteibgagdnidojaa.diskTells
open Go.ChangeShapes Go.WideShapes Go.ChangeAt Go.RowKit
theorem p_named : Try.pinned.checked.prog.funcNamed Rows.diskTellsUptoRow.func = some 20 := by kernel_rfl
theorem p_inst : Try.f20.isInstance Try.pinned.checked.prog Rows.diskTellsUptoRow.origin Rows.diskTellsUptoRow.targs := of_decide_eq_true (by kernel_rfl)
theorem p_wrap : Try.f20.isWrapper Try.pinned.checked.prog Rows.diskTellsUptoRow.wrapper Rows.diskTellsUptoRow.mainSum := by unfold Func.isWrapper; first | (rw [if_pos (by decide +kernel)]; kernel_rfl) | (rw [if_neg (by decide +kernel)]; exact ⟨rfl, rfl⟩)
theorem p_closed : joinedFacts Try.pinned.checked.prog 20 Try.f20 (Rows.OpenSpec.upto Rows.diskTellsSpec).bare Rows.diskTellsUptoRow = true := by kernel_rfl
end Go.Proofs.Yteibgagdnidojaa.diskTells
