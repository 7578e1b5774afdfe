import Derived.Test.YtgahmammhclobaaJ5
import Derived.Test.YtgahmammhclobaaRows
set_option linter.all false
namespace Go.Proofs.Ytgahmammhclobaa.codecApart
open Go.ChangeShapes Go.WideShapes Go.ChangeAt Go.RowKit
theorem p_named:Try.pinned.checked.prog.funcNamed Rows.codecApartUptoRow.func=some 3:=by kernel_rfl
theorem p_inst:Try.f3.isInstance Try.pinned.checked.prog Rows.codecApartUptoRow.origin Rows.codecApartUptoRow.targs:=of_decide_eq_true (by kernel_rfl)
theorem p_wrap:Try.f3.isWrapper Try.pinned.checked.prog Rows.codecApartUptoRow.wrapper Rows.codecApartUptoRow.mainSum:=by unfold Func.isWrapper; first | (rw [if_pos (by decide +kernel)]; kernel_rfl) | (rw [if_neg (by decide +kernel)]; exact ⟨rfl,rfl⟩)
theorem p_closed:joinedFacts Try.pinned.checked.prog 3 Try.f3 (Rows.OpenSpec.upto Rows.codecApartSpec).bare Rows.codecApartUptoRow=true:=by kernel_rfl
end Go.Proofs.Ytgahmammhclobaa.codecApart
