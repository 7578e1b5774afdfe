import Derived.Test.YtohoggieaanllaaGreatJ6
import Derived.Test.YtohoggieaanllaaGreatRows
set_option linter.all false
namespace Go.Proofs.YtohoggieaanllaaGreat.netTells
open Go.ChangeShapes Go.WideShapes Go.ChangeAt Go.RowKit
theorem ayB:Tryz.pinned.checked.prog.funcNamed Rows.netTellsUptoRow.func=some 7:=by kernel_rfl
theorem aAn:Tryz.f7.isInstance Tryz.pinned.checked.prog Rows.netTellsUptoRow.origin Rows.netTellsUptoRow.targs:=of_decide_eq_true (by kernel_rfl)
theorem aAo:Tryz.f7.isWrapper Tryz.pinned.checked.prog Rows.netTellsUptoRow.wrapper Rows.netTellsUptoRow.mainSum:=by unfold Func.isWrapper;first |(rw[if_pos (by decide +kernel)];kernel_rfl) |(rw[if_neg (by decide +kernel)];exact⟨rfl,rfl⟩)
theorem auy:joinedFacts Tryz.pinned.checked.prog 7 Tryz.f7 (Rows.OpenSpec.upto Rows.netTellsSpec).bare Rows.netTellsUptoRow=true:=by kernel_rfl
end Go.Proofs.YtohoggieaanllaaGreat.netTells
