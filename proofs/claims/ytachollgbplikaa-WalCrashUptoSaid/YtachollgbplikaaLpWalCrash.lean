/- The law WalCrash: what the kernel runs of its row (a text of its own: it takes much memory). -/
import Derived.Test.YtachollgbplikaaJ5
import Derived.Test.YtachollgbplikaaRows
set_option linter.all false
namespace Go.Proofs.Ytachollgbplikaa.walCrash
open Go.ChangeShapes Go.WideShapes Go.ChangeAt Go.RowKit
theorem p_named : Try.pinned.checked.prog.funcNamed Rows.walCrashUptoRow.func = some 9 := by kernel_rfl
theorem p_inst : Try.f9.isInstance Try.pinned.checked.prog Rows.walCrashUptoRow.origin Rows.walCrashUptoRow.targs := of_decide_eq_true (by kernel_rfl)
theorem p_wrap : Try.f9.isWrapper Try.pinned.checked.prog Rows.walCrashUptoRow.wrapper Rows.walCrashUptoRow.mainSum := by unfold Func.isWrapper; first | (rw [if_pos (by decide +kernel)]; kernel_rfl) | (rw [if_neg (by decide +kernel)]; exact ⟨rfl, rfl⟩)
theorem p_closed : joinedFacts Try.pinned.checked.prog 9 Try.f9 (Rows.OpenSpec.upto Rows.walCrashSpec).bare Rows.walCrashUptoRow = true := by kernel_rfl
end Go.Proofs.Ytachollgbplikaa.walCrash
