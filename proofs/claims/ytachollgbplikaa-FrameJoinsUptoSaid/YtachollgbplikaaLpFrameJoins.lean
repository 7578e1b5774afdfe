/- The law FrameJoins: what the kernel runs of its row (a text of its own: it takes much memory). -/
import Derived.Test.YtachollgbplikaaAm33
import Derived.Test.YtachollgbplikaaRows
set_option linter.all false
namespace Go.Proofs.Ytachollgbplikaa.frameJoins
open Go.ChangeShapes Go.WideShapes Go.ChangeAt Go.RowKit
theorem p_named : Try.pinned.checked.prog.funcNamed Rows.frameJoinsUptoRow.func = some 6 := by kernel_rfl
theorem p_inst : Try.f6.isInstance Try.pinned.checked.prog Rows.frameJoinsUptoRow.origin Rows.frameJoinsUptoRow.targs := of_decide_eq_true (by kernel_rfl)
theorem p_wrap : Try.f6.isWrapper Try.pinned.checked.prog Rows.frameJoinsUptoRow.wrapper Rows.frameJoinsUptoRow.mainSum := by unfold Func.isWrapper; first | (rw [if_pos (by decide +kernel)]; kernel_rfl) | (rw [if_neg (by decide +kernel)]; exact ⟨rfl, rfl⟩)
theorem p_closed : joinedFacts Try.pinned.checked.prog 6 Try.f6 (Rows.OpenSpec.upto Rows.frameJoinsSpec).bare Rows.frameJoinsUptoRow = true := by kernel_rfl
end Go.Proofs.Ytachollgbplikaa.frameJoins
