import Derived.Test.YtohoggieaanllaaGreatJ5
import Derived.Test.YtohoggieaanllaaGreatRows
import Derived.Test.YtohoggieaanllaaGreatLlMsgParts
import Derived.Test.YtohoggieaanllaaGreatLpMsgParts
set_option linter.all false
set_option linter.unusedSimpArgs false
namespace Go.Proofs.YtohoggieaanllaaGreat.msgParts
open Go.ChangeShapes Go.WideShapes Go.ChangeAt Go.RowKit
theorem proved:Rows.MsgPartsUptoSaid :=
 OpenClaim.holds_of_cond 4 Tryz.f4 rfl rfl rfl rfl rfl rfl rfl ⟨rfl,rfl,rfl,rfl,rfl⟩ rfl rfl rfl rfl rfl akL Tryz.func4 ahZ al5 al6
  (λos started H enc _ F0=>lifted os started H enc F0)
#print axioms proved
end Go.Proofs.YtohoggieaanllaaGreat.msgParts
namespace Go.Proofs.YtohoggieaanllaaGreat
theorem msgParts_holds:Rows.MsgPartsUptoSaid:=msgParts.proved
end Go.Proofs.YtohoggieaanllaaGreat
