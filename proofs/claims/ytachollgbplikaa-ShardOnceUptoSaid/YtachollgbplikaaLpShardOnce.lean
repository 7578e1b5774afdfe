import Derived.Test.YtachollgbplikaaJ5
import Derived.Test.YtachollgbplikaaRows
set_option linter.all false
namespace Go.Proofs.Ytachollgbplikaa.shardOnce
open Go.ChangeShapes Go.WideShapes Go.ChangeAt Go.RowKit
theorem p_named:Try.pinned.checked.prog.funcNamed Rows.shardOnceUptoRow.func=some 18:=by kernel_rfl
theorem p_inst:Try.f18.isInstance Try.pinned.checked.prog Rows.shardOnceUptoRow.origin Rows.shardOnceUptoRow.targs:=of_decide_eq_true (by kernel_rfl)
theorem p_wrap:Try.f18.isWrapper Try.pinned.checked.prog Rows.shardOnceUptoRow.wrapper Rows.shardOnceUptoRow.mainSum:=by unfold Func.isWrapper; first | (rw [if_pos (by decide +kernel)]; kernel_rfl) | (rw [if_neg (by decide +kernel)]; exact ⟨rfl,rfl⟩)
theorem p_closed:joinedFacts Try.pinned.checked.prog 18 Try.f18 (Rows.OpenSpec.upto Rows.shardOnceSpec).bare Rows.shardOnceUptoRow=true:=by kernel_rfl
end Go.Proofs.Ytachollgbplikaa.shardOnce
