/- The law SessionTells: what the kernel runs of its row (a text of its own: it takes much memory). -/
import Derived.Test.YteibgagdnidojaaJ5
import Derived.Test.YteibgagdnidojaaRows
set_option linter.all false
namespace Go.Proofs.Yteibgagdnidojaa.sessionTells
open Go.ChangeShapes Go.WideShapes Go.ChangeAt Go.RowKit
theorem p_named : Try.pinned.checked.prog.funcNamed Rows.sessionTellsUptoRow.func = some 14 := by kernel_rfl
theorem p_inst : Try.f14.isInstance Try.pinned.checked.prog Rows.sessionTellsUptoRow.origin Rows.sessionTellsUptoRow.targs := of_decide_eq_true (by kernel_rfl)
theorem p_wrap : Try.f14.isWrapper Try.pinned.checked.prog Rows.sessionTellsUptoRow.wrapper Rows.sessionTellsUptoRow.mainSum := by unfold Func.isWrapper; first | (rw [if_pos (by decide +kernel)]; kernel_rfl) | (rw [if_neg (by decide +kernel)]; exact ⟨rfl, rfl⟩)
theorem p_closed : joinedFacts Try.pinned.checked.prog 14 Try.f14 (Rows.OpenSpec.upto Rows.sessionTellsSpec).bare Rows.sessionTellsUptoRow = true := by kernel_rfl
end Go.Proofs.Yteibgagdnidojaa.sessionTells
