import Derived.Test.YtohoggieaanllaaGreatJ5
import Derived.Test.YtohoggieaanllaaGreatRows
import Derived.Test.YtohoggieaanllaaGreatLlMsgTells
import Derived.Test.YtohoggieaanllaaGreatLpMsgTells
set_option linter.all false
set_option linter.unusedSimpArgs false
namespace Go.Proofs.YtohoggieaanllaaGreat.msgTells
open Go.ChangeShapes Go.WideShapes Go.ChangeAt Go.RowKit
theorem proved:Rows.MsgTellsUptoSaid :=
 OpenClaim.holds_of_cond 3 Tryz.f3 rfl rfl rfl rfl rfl rfl rfl ⟨rfl,rfl,rfl,rfl,rfl⟩ rfl rfl rfl rfl rfl auI Tryz.func3 aqN awx awy
  (λos started H enc _ F0=>lifted os started H enc F0)
#print axioms proved
end Go.Proofs.YtohoggieaanllaaGreat.msgTells
namespace Go.Proofs.YtohoggieaanllaaGreat
theorem msgTells_holds:Rows.MsgTellsUptoSaid:=msgTells.proved
end Go.Proofs.YtohoggieaanllaaGreat
