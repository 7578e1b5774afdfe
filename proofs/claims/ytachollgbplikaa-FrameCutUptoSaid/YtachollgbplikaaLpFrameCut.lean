/- The law FrameCut: what the kernel runs of its row (a text of its own: it takes much memory). -/
import Derived.Test.YtachollgbplikaaAm33
import Derived.Test.YtachollgbplikaaRows
set_option linter.all false
namespace Go.Proofs.Ytachollgbplikaa.frameCut
open Go.ChangeShapes Go.WideShapes Go.ChangeAt Go.RowKit
theorem p_named : Try.pinned.checked.prog.funcNamed Rows.frameCutUptoRow.func = some 5 := by kernel_rfl
theorem p_inst : Try.f5.isInstance Try.pinned.checked.prog Rows.frameCutUptoRow.origin Rows.frameCutUptoRow.targs := of_decide_eq_true (by kernel_rfl)
theorem p_wrap : Try.f5.isWrapper Try.pinned.checked.prog Rows.frameCutUptoRow.wrapper Rows.frameCutUptoRow.mainSum := by unfold Func.isWrapper; first | (rw [if_pos (by decide +kernel)]; kernel_rfl) | (rw [if_neg (by decide +kernel)]; exact ⟨rfl, rfl⟩)
theorem p_closed : joinedFacts Try.pinned.checked.prog 5 Try.f5 (Rows.OpenSpec.upto Rows.frameCutSpec).bare Rows.frameCutUptoRow = true := by kernel_rfl
end Go.Proofs.Ytachollgbplikaa.frameCut
