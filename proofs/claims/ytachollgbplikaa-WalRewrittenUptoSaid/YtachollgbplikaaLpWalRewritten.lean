/- The law WalRewritten: what the kernel runs of its row (a text of its own: it takes much memory). -/
import Derived.Test.YtachollgbplikaaJ5
import Derived.Test.YtachollgbplikaaRows
set_option linter.all false
namespace Go.Proofs.Ytachollgbplikaa.walRewritten
open Go.ChangeShapes Go.WideShapes Go.ChangeAt Go.RowKit
theorem p_named : Try.pinned.checked.prog.funcNamed Rows.walRewrittenUptoRow.func = some 12 := by kernel_rfl
theorem p_inst : Try.f12.isInstance Try.pinned.checked.prog Rows.walRewrittenUptoRow.origin Rows.walRewrittenUptoRow.targs := of_decide_eq_true (by kernel_rfl)
theorem p_wrap : Try.f12.isWrapper Try.pinned.checked.prog Rows.walRewrittenUptoRow.wrapper Rows.walRewrittenUptoRow.mainSum := by unfold Func.isWrapper; first | (rw [if_pos (by decide +kernel)]; kernel_rfl) | (rw [if_neg (by decide +kernel)]; exact ⟨rfl, rfl⟩)
theorem p_closed : joinedFacts Try.pinned.checked.prog 12 Try.f12 (Rows.OpenSpec.upto Rows.walRewrittenSpec).bare Rows.walRewrittenUptoRow = true := by kernel_rfl
end Go.Proofs.Ytachollgbplikaa.walRewritten
