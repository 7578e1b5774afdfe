import Derived.Test.YtohoggieaanllaaGreatJ5
import Derived.Test.YtohoggieaanllaaGreatRows
set_option linter.all false
namespace Go.Proofs.YtohoggieaanllaaGreat.netOrder
open Go.ChangeShapes Go.WideShapes Go.ChangeAt Go.RowKit
theorem auN:Tryz.pinned.checked.prog.funcNamed Rows.netOrderUptoRow.func=some 5:=by kernel_rfl
theorem awe:Tryz.f5.isInstance Tryz.pinned.checked.prog Rows.netOrderUptoRow.origin Rows.netOrderUptoRow.targs:=of_decide_eq_true (by kernel_rfl)
theorem awf:Tryz.f5.isWrapper Tryz.pinned.checked.prog Rows.netOrderUptoRow.wrapper Rows.netOrderUptoRow.mainSum:=by unfold Func.isWrapper;first | (rw [if_pos (by decide +kernel)];kernel_rfl) | (rw [if_neg (by decide +kernel)];exact ⟨rfl,rfl⟩)
theorem aqL:joinedFacts Tryz.pinned.checked.prog 5 Tryz.f5 (Rows.OpenSpec.upto Rows.netOrderSpec).bare Rows.netOrderUptoRow=true:=by kernel_rfl
end Go.Proofs.YtohoggieaanllaaGreat.netOrder
