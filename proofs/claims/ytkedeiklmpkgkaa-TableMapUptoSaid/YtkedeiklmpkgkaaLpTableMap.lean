import Derived.Test.YtkedeiklmpkgkaaJ5
import Derived.Test.YtkedeiklmpkgkaaRows
set_option linter.all false
namespace Go.Proofs.Ytkedeiklmpkgkaa.tableMap
open Go.ChangeShapes Go.WideShapes Go.ChangeAt Go.RowKit
theorem Ow:Try.pinned.checked.prog.funcNamed Rows.tableMapUptoRow.func=some 9:=by kernel_rfl
theorem Qi:Try.f9.isInstance Try.pinned.checked.prog Rows.tableMapUptoRow.origin Rows.tableMapUptoRow.targs:=of_decide_eq_true (by kernel_rfl)
theorem Qj:Try.f9.isWrapper Try.pinned.checked.prog Rows.tableMapUptoRow.wrapper Rows.tableMapUptoRow.mainSum:=by unfold Func.isWrapper;first |(rw[if_pos (by decide +kernel)];kernel_rfl) |(rw[if_neg (by decide +kernel)];exact⟨rfl,rfl⟩)
theorem Mf:joinedFacts Try.pinned.checked.prog 9 Try.f9 (Rows.OpenSpec.upto Rows.tableMapSpec).bare Rows.tableMapUptoRow=true:=by kernel_rfl
end Go.Proofs.Ytkedeiklmpkgkaa.tableMap
