import Derived.Test.YtgahmammhclobaaGreatJ5
import Derived.Test.YtgahmammhclobaaGreatRows
set_option linter.all false
namespace Go.Proofs.YtgahmammhclobaaGreat.recTells
open Go.ChangeShapes Go.WideShapes Go.ChangeAt Go.RowKit
theorem p_named:Tryz.pinned.checked.prog.funcNamed Rows.recTellsUptoRow.func=some 4:=by kernel_rfl
theorem p_inst:Tryz.f4.isInstance Tryz.pinned.checked.prog Rows.recTellsUptoRow.origin Rows.recTellsUptoRow.targs:=of_decide_eq_true (by kernel_rfl)
theorem p_wrap:Tryz.f4.isWrapper Tryz.pinned.checked.prog Rows.recTellsUptoRow.wrapper Rows.recTellsUptoRow.mainSum:=by unfold Func.isWrapper; first | (rw [if_pos (by decide +kernel)]; kernel_rfl) | (rw [if_neg (by decide +kernel)]; exact ⟨rfl,rfl⟩)
theorem p_closed:joinedFacts Tryz.pinned.checked.prog 4 Tryz.f4 (Rows.OpenSpec.upto Rows.recTellsSpec).bare Rows.recTellsUptoRow=true:=by kernel_rfl
end Go.Proofs.YtgahmammhclobaaGreat.recTells
