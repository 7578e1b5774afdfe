import Derived.Test.YtgahmammhclobaaGreatJ5
import Derived.Test.YtgahmammhclobaaGreatRows
set_option linter.all false
namespace Go.Proofs.YtgahmammhclobaaGreat.msgBack
open Go.ChangeShapes Go.WideShapes Go.ChangeAt Go.RowKit
theorem p_named:Tryz.pinned.checked.prog.funcNamed Rows.msgBackUptoRow.func=some 6:=by kernel_rfl
theorem p_inst:Tryz.f6.isInstance Tryz.pinned.checked.prog Rows.msgBackUptoRow.origin Rows.msgBackUptoRow.targs:=of_decide_eq_true (by kernel_rfl)
theorem p_wrap:Tryz.f6.isWrapper Tryz.pinned.checked.prog Rows.msgBackUptoRow.wrapper Rows.msgBackUptoRow.mainSum:=by unfold Func.isWrapper; first | (rw [if_pos (by decide +kernel)]; kernel_rfl) | (rw [if_neg (by decide +kernel)]; exact ⟨rfl,rfl⟩)
theorem p_closed:joinedFacts Tryz.pinned.checked.prog 6 Tryz.f6 (Rows.OpenSpec.upto Rows.msgBackSpec).bare Rows.msgBackUptoRow=true:=by kernel_rfl
end Go.Proofs.YtgahmammhclobaaGreat.msgBack
