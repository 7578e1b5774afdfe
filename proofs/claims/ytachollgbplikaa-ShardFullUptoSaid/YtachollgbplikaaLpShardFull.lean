/- The law ShardFull: what the kernel runs of its row (a text of its own: it takes much memory). -/
import Derived.Test.YtachollgbplikaaJ5
import Derived.Test.YtachollgbplikaaRows
set_option linter.all false
namespace Go.Proofs.Ytachollgbplikaa.shardFull
open Go.ChangeShapes Go.WideShapes Go.ChangeAt Go.RowKit
theorem p_named : Try.pinned.checked.prog.funcNamed Rows.shardFullUptoRow.func = some 19 := by kernel_rfl
theorem p_inst : Try.f19.isInstance Try.pinned.checked.prog Rows.shardFullUptoRow.origin Rows.shardFullUptoRow.targs := of_decide_eq_true (by kernel_rfl)
theorem p_wrap : Try.f19.isWrapper Try.pinned.checked.prog Rows.shardFullUptoRow.wrapper Rows.shardFullUptoRow.mainSum := by unfold Func.isWrapper; first | (rw [if_pos (by decide +kernel)]; kernel_rfl) | (rw [if_neg (by decide +kernel)]; exact ⟨rfl, rfl⟩)
theorem p_closed : joinedFacts Try.pinned.checked.prog 19 Try.f19 (Rows.OpenSpec.upto Rows.shardFullSpec).bare Rows.shardFullUptoRow = true := by kernel_rfl
end Go.Proofs.Ytachollgbplikaa.shardFull
