import Derived.Test.YtkedeiklmpkgkaaJ5
import Derived.Test.YtkedeiklmpkgkaaRows
set_option linter.all false
namespace Go.Proofs.Ytkedeiklmpkgkaa.sessionLast
open Go.ChangeShapes Go.WideShapes Go.ChangeAt Go.RowKit
theorem Gy:Try.pinned.checked.prog.funcNamed Rows.sessionLastUptoRow.func=some 3:=by kernel_rfl
theorem IL:Try.f3.isInstance Try.pinned.checked.prog Rows.sessionLastUptoRow.origin Rows.sessionLastUptoRow.targs:=of_decide_eq_true (by kernel_rfl)
theorem IQ:Try.f3.isWrapper Try.pinned.checked.prog Rows.sessionLastUptoRow.wrapper Rows.sessionLastUptoRow.mainSum:=by unfold Func.isWrapper;first |(rw[if_pos (by decide +kernel)];kernel_rfl) |(rw[if_neg (by decide +kernel)];exact⟨rfl,rfl⟩)
theorem EY:joinedFacts Try.pinned.checked.prog 3 Try.f3 (Rows.OpenSpec.upto Rows.sessionLastSpec).bare Rows.sessionLastUptoRow=true:=by kernel_rfl
end Go.Proofs.Ytkedeiklmpkgkaa.sessionLast
