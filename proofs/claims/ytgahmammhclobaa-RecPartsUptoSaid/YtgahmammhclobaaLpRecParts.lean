import Derived.Test.YtgahmammhclobaaJ5
import Derived.Test.YtgahmammhclobaaRows
set_option linter.all false
namespace Go.Proofs.Ytgahmammhclobaa.recParts
open Go.ChangeShapes Go.WideShapes Go.ChangeAt Go.RowKit
theorem p_named:Try.pinned.checked.prog.funcNamed Rows.recPartsUptoRow.func=some 8:=by kernel_rfl
theorem p_inst:Try.f8.isInstance Try.pinned.checked.prog Rows.recPartsUptoRow.origin Rows.recPartsUptoRow.targs:=of_decide_eq_true (by kernel_rfl)
theorem p_wrap:Try.f8.isWrapper Try.pinned.checked.prog Rows.recPartsUptoRow.wrapper Rows.recPartsUptoRow.mainSum:=by unfold Func.isWrapper; first | (rw [if_pos (by decide +kernel)]; kernel_rfl) | (rw [if_neg (by decide +kernel)]; exact ⟨rfl,rfl⟩)
theorem p_closed:joinedFacts Try.pinned.checked.prog 8 Try.f8 (Rows.OpenSpec.upto Rows.recPartsSpec).bare Rows.recPartsUptoRow=true:=by kernel_rfl
end Go.Proofs.Ytgahmammhclobaa.recParts
