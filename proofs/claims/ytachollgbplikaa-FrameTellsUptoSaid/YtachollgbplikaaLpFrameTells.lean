/- The law FrameTells: what the kernel runs of its row (a text of its own: it takes much memory). -/
import Derived.Test.YtachollgbplikaaJ5
import Derived.Test.YtachollgbplikaaRows
set_option linter.all false
namespace Go.Proofs.Ytachollgbplikaa.frameTells
open Go.ChangeShapes Go.WideShapes Go.ChangeAt Go.RowKit
theorem p_named : Try.pinned.checked.prog.funcNamed Rows.frameTellsUptoRow.func = some 4 := by kernel_rfl
theorem p_inst : Try.f4.isInstance Try.pinned.checked.prog Rows.frameTellsUptoRow.origin Rows.frameTellsUptoRow.targs := of_decide_eq_true (by kernel_rfl)
theorem p_wrap : Try.f4.isWrapper Try.pinned.checked.prog Rows.frameTellsUptoRow.wrapper Rows.frameTellsUptoRow.mainSum := by unfold Func.isWrapper; first | (rw [if_pos (by decide +kernel)]; kernel_rfl) | (rw [if_neg (by decide +kernel)]; exact ⟨rfl, rfl⟩)
theorem p_closed : joinedFacts Try.pinned.checked.prog 4 Try.f4 (Rows.OpenSpec.upto Rows.frameTellsSpec).bare Rows.frameTellsUptoRow = true := by kernel_rfl
end Go.Proofs.Ytachollgbplikaa.frameTells
