import Derived.Test.YtkedeiklmpkgkaaJ5
import Derived.Test.YtkedeiklmpkgkaaRows
set_option linter.all false
namespace Go.Proofs.Ytkedeiklmpkgkaa.shardImage
open Go.ChangeShapes Go.WideShapes Go.ChangeAt Go.RowKit
theorem Zx:Try.pinned.checked.prog.funcNamed Rows.shardImageUptoRow.func=some 11:=by kernel_rfl
theorem aaS:Try.f11.isInstance Try.pinned.checked.prog Rows.shardImageUptoRow.origin Rows.shardImageUptoRow.targs:=of_decide_eq_true (by kernel_rfl)
theorem aaT:Try.f11.isWrapper Try.pinned.checked.prog Rows.shardImageUptoRow.wrapper Rows.shardImageUptoRow.mainSum:=by unfold Func.isWrapper;first |(rw[if_pos (by decide +kernel)];kernel_rfl) |(rw[if_neg (by decide +kernel)];exact⟨rfl,rfl⟩)
theorem WX:joinedFacts Try.pinned.checked.prog 11 Try.f11 (Rows.OpenSpec.upto Rows.shardImageSpec).bare Rows.shardImageUptoRow=true:=by kernel_rfl
end Go.Proofs.Ytkedeiklmpkgkaa.shardImage
