import Derived.Test.YtohoggieaanllaaGreatJ5
import Derived.Test.YtohoggieaanllaaGreatRows
set_option linter.all false
namespace Go.Proofs.YtohoggieaanllaaGreat.msgParts
open Go.ChangeShapes Go.WideShapes Go.ChangeAt Go.RowKit
theorem akL:Tryz.pinned.checked.prog.funcNamed Rows.msgPartsUptoRow.func=some 4:=by kernel_rfl
theorem al5:Tryz.f4.isInstance Tryz.pinned.checked.prog Rows.msgPartsUptoRow.origin Rows.msgPartsUptoRow.targs:=of_decide_eq_true (by kernel_rfl)
theorem al6:Tryz.f4.isWrapper Tryz.pinned.checked.prog Rows.msgPartsUptoRow.wrapper Rows.msgPartsUptoRow.mainSum:=by unfold Func.isWrapper;first | (rw [if_pos (by decide +kernel)];kernel_rfl) | (rw [if_neg (by decide +kernel)];exact ⟨rfl,rfl⟩)
theorem ahZ:joinedFacts Tryz.pinned.checked.prog 4 Tryz.f4 (Rows.OpenSpec.upto Rows.msgPartsSpec).bare Rows.msgPartsUptoRow=true:=by kernel_rfl
end Go.Proofs.YtohoggieaanllaaGreat.msgParts
