import Derived.Test.YtgahmammhclobaaJ5
import Derived.Test.YtgahmammhclobaaRows
set_option linter.all false
namespace Go.Proofs.Ytgahmammhclobaa.codecBack
open Go.ChangeShapes Go.WideShapes Go.ChangeAt Go.RowKit
theorem p_named:Try.pinned.checked.prog.funcNamed Rows.codecBackUptoRow.func=some 5:=by kernel_rfl
theorem p_inst:Try.f5.isInstance Try.pinned.checked.prog Rows.codecBackUptoRow.origin Rows.codecBackUptoRow.targs:=of_decide_eq_true (by kernel_rfl)
theorem p_wrap:Try.f5.isWrapper Try.pinned.checked.prog Rows.codecBackUptoRow.wrapper Rows.codecBackUptoRow.mainSum:=by unfold Func.isWrapper; first | (rw [if_pos (by decide +kernel)]; kernel_rfl) | (rw [if_neg (by decide +kernel)]; exact ⟨rfl,rfl⟩)
theorem p_closed:joinedFacts Try.pinned.checked.prog 5 Try.f5 (Rows.OpenSpec.upto Rows.codecBackSpec).bare Rows.codecBackUptoRow=true:=by kernel_rfl
end Go.Proofs.Ytgahmammhclobaa.codecBack
