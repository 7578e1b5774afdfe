import Derived.Test.YtkedeiklmpkgkaaJ5
import Derived.Test.YtkedeiklmpkgkaaRows
set_option linter.all false
namespace Go.Proofs.Ytkedeiklmpkgkaa.tableOrder
open Go.ChangeShapes Go.WideShapes Go.ChangeAt Go.RowKit
theorem Pm:Try.pinned.checked.prog.funcNamed Rows.tableOrderUptoRow.func=some 10:=by kernel_rfl
theorem Q_:Try.f10.isInstance Try.pinned.checked.prog Rows.tableOrderUptoRow.origin Rows.tableOrderUptoRow.targs:=of_decide_eq_true (by kernel_rfl)
theorem Ra:Try.f10.isWrapper Try.pinned.checked.prog Rows.tableOrderUptoRow.wrapper Rows.tableOrderUptoRow.mainSum:=by unfold Func.isWrapper;first |(rw[if_pos (by decide +kernel)];kernel_rfl) |(rw[if_neg (by decide +kernel)];exact⟨rfl,rfl⟩)
theorem M6:joinedFacts Try.pinned.checked.prog 10 Try.f10 (Rows.OpenSpec.upto Rows.tableOrderSpec).bare Rows.tableOrderUptoRow=true:=by kernel_rfl
end Go.Proofs.Ytkedeiklmpkgkaa.tableOrder
