import Derived.Test.YtohoggieaanllaaGreatJ5
import Derived.Test.YtohoggieaanllaaGreatRows
set_option linter.all false
namespace Go.Proofs.YtohoggieaanllaaGreat.msgTells
open Go.ChangeShapes Go.WideShapes Go.ChangeAt Go.RowKit
theorem auI:Tryz.pinned.checked.prog.funcNamed Rows.msgTellsUptoRow.func=some 3:=by kernel_rfl
theorem awx:Tryz.f3.isInstance Tryz.pinned.checked.prog Rows.msgTellsUptoRow.origin Rows.msgTellsUptoRow.targs:=of_decide_eq_true (by kernel_rfl)
theorem awy:Tryz.f3.isWrapper Tryz.pinned.checked.prog Rows.msgTellsUptoRow.wrapper Rows.msgTellsUptoRow.mainSum:=by unfold Func.isWrapper;first | (rw [if_pos (by decide +kernel)];kernel_rfl) | (rw [if_neg (by decide +kernel)];exact ⟨rfl,rfl⟩)
theorem aqN:joinedFacts Tryz.pinned.checked.prog 3 Tryz.f3 (Rows.OpenSpec.upto Rows.msgTellsSpec).bare Rows.msgTellsUptoRow=true:=by kernel_rfl
end Go.Proofs.YtohoggieaanllaaGreat.msgTells
