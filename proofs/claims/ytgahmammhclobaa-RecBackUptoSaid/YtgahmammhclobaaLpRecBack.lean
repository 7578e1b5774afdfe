import Derived.Test.YtgahmammhclobaaJ5
import Derived.Test.YtgahmammhclobaaRows
set_option linter.all false
namespace Go.Proofs.Ytgahmammhclobaa.recBack
open Go.ChangeShapes Go.WideShapes Go.ChangeAt Go.RowKit
theorem p_named:Try.pinned.checked.prog.funcNamed Rows.recBackUptoRow.func=some 7:=by kernel_rfl
theorem p_inst:Try.f7.isInstance Try.pinned.checked.prog Rows.recBackUptoRow.origin Rows.recBackUptoRow.targs:=of_decide_eq_true (by kernel_rfl)
theorem p_wrap:Try.f7.isWrapper Try.pinned.checked.prog Rows.recBackUptoRow.wrapper Rows.recBackUptoRow.mainSum:=by unfold Func.isWrapper; first | (rw [if_pos (by decide +kernel)]; kernel_rfl) | (rw [if_neg (by decide +kernel)]; exact ⟨rfl,rfl⟩)
theorem p_closed:joinedFacts Try.pinned.checked.prog 7 Try.f7 (Rows.OpenSpec.upto Rows.recBackSpec).bare Rows.recBackUptoRow=true:=by kernel_rfl
end Go.Proofs.Ytgahmammhclobaa.recBack
