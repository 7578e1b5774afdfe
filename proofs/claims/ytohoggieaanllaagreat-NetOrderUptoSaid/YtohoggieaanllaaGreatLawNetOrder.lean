import Derived.Test.YtohoggieaanllaaGreatJ5
import Derived.Test.YtohoggieaanllaaGreatRows
import Derived.Test.YtohoggieaanllaaGreatLlNetOrder
import Derived.Test.YtohoggieaanllaaGreatLpNetOrder
set_option linter.all false
set_option linter.unusedSimpArgs false
namespace Go.Proofs.YtohoggieaanllaaGreat.netOrder
open Go.ChangeShapes Go.WideShapes Go.ChangeAt Go.RowKit
theorem proved:Rows.NetOrderUptoSaid :=
 OpenClaim.holds_of_cond 5 Tryz.f5 rfl rfl rfl rfl rfl rfl rfl ⟨rfl,rfl,rfl,rfl,rfl⟩ rfl rfl rfl rfl rfl auN Tryz.func5 aqL awe awf
  (λos started H enc _ F0=>lifted os started H enc F0)
#print axioms proved
end Go.Proofs.YtohoggieaanllaaGreat.netOrder
namespace Go.Proofs.YtohoggieaanllaaGreat
theorem netOrder_holds:Rows.NetOrderUptoSaid:=netOrder.proved
end Go.Proofs.YtohoggieaanllaaGreat
