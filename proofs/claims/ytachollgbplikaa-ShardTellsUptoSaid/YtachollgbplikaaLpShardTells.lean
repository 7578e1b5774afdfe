import Derived.Test.YtachollgbplikaaJ5
import Derived.Test.YtachollgbplikaaRows
set_option linter.all false
namespace Go.Proofs.Ytachollgbplikaa.shardTells
open Go.ChangeShapes Go.WideShapes Go.ChangeAt Go.RowKit
theorem p_named:Try.pinned.checked.prog.funcNamed Rows.shardTellsUptoRow.func=some 21:=by kernel_rfl
theorem p_inst:Try.f21.isInstance Try.pinned.checked.prog Rows.shardTellsUptoRow.origin Rows.shardTellsUptoRow.targs:=of_decide_eq_true (by kernel_rfl)
theorem p_wrap:Try.f21.isWrapper Try.pinned.checked.prog Rows.shardTellsUptoRow.wrapper Rows.shardTellsUptoRow.mainSum:=by unfold Func.isWrapper; first | (rw [if_pos (by decide +kernel)]; kernel_rfl) | (rw [if_neg (by decide +kernel)]; exact ⟨rfl,rfl⟩)
theorem p_closed:joinedFacts Try.pinned.checked.prog 21 Try.f21 (Rows.OpenSpec.upto Rows.shardTellsSpec).bare Rows.shardTellsUptoRow=true:=by kernel_rfl
end Go.Proofs.Ytachollgbplikaa.shardTells
