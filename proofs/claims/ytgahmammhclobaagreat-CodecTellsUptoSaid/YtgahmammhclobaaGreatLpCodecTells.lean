import Derived.Test.YtgahmammhclobaaGreatJ5
import Derived.Test.YtgahmammhclobaaGreatRows
set_option linter.all false
namespace Go.Proofs.YtgahmammhclobaaGreat.codecTells
open Go.ChangeShapes Go.WideShapes Go.ChangeAt Go.RowKit
theorem p_named:Tryz.pinned.checked.prog.funcNamed Rows.codecTellsUptoRow.func=some 3:=by kernel_rfl
theorem p_inst:Tryz.f3.isInstance Tryz.pinned.checked.prog Rows.codecTellsUptoRow.origin Rows.codecTellsUptoRow.targs:=of_decide_eq_true (by kernel_rfl)
theorem p_wrap:Tryz.f3.isWrapper Tryz.pinned.checked.prog Rows.codecTellsUptoRow.wrapper Rows.codecTellsUptoRow.mainSum:=by unfold Func.isWrapper; first | (rw [if_pos (by decide +kernel)]; kernel_rfl) | (rw [if_neg (by decide +kernel)]; exact ⟨rfl,rfl⟩)
theorem p_closed:joinedFacts Tryz.pinned.checked.prog 3 Tryz.f3 (Rows.OpenSpec.upto Rows.codecTellsSpec).bare Rows.codecTellsUptoRow=true:=by kernel_rfl
end Go.Proofs.YtgahmammhclobaaGreat.codecTells
