import Derived.Test.YtkedeiklmpkgkaaJ5
import Derived.Test.YtkedeiklmpkgkaaRows
set_option linter.all false
namespace Go.Proofs.Ytkedeiklmpkgkaa.walTells
open Go.ChangeShapes Go.WideShapes Go.ChangeAt Go.RowKit
theorem Xy:Try.pinned.checked.prog.funcNamed Rows.walTellsUptoRow.func=some 8:=by kernel_rfl
theorem YZ:Try.f8.isInstance Try.pinned.checked.prog Rows.walTellsUptoRow.origin Rows.walTellsUptoRow.targs:=of_decide_eq_true (by kernel_rfl)
theorem Y0:Try.f8.isWrapper Try.pinned.checked.prog Rows.walTellsUptoRow.wrapper Rows.walTellsUptoRow.mainSum:=by unfold Func.isWrapper;first |(rw[if_pos (by decide +kernel)];kernel_rfl) |(rw[if_neg (by decide +kernel)];exact⟨rfl,rfl⟩)
theorem UJ:joinedFacts Try.pinned.checked.prog 8 Try.f8 (Rows.OpenSpec.upto Rows.walTellsSpec).bare Rows.walTellsUptoRow=true:=by kernel_rfl
end Go.Proofs.Ytkedeiklmpkgkaa.walTells
