import Derived.Test.YtohoggieaanllaaGreatJ6
import Derived.Test.YtohoggieaanllaaGreatRows
import Derived.Test.YtohoggieaanllaaGreatLlNetTells
import Derived.Test.YtohoggieaanllaaGreatLpNetTells
set_option linter.all false
namespace Go.Proofs.YtohoggieaanllaaGreat.netTells
open Go.ChangeShapes Go.WideShapes Go.ChangeAt Go.RowKit
theorem proved:Rows.NetTellsUptoSaid :=
 OpenClaim.holds_of_cond 7 Tryz.f7 rfl rfl rfl rfl rfl rfl rfl ⟨rfl,rfl,rfl,rfl,rfl⟩ rfl rfl rfl rfl rfl ayB Tryz.func7 auy aAn aAo
  (λos started H enc _ F0=>lifted os started H enc F0)
#print axioms proved
end Go.Proofs.YtohoggieaanllaaGreat.netTells
namespace Go.Proofs.YtohoggieaanllaaGreat
theorem netTells_holds:Rows.NetTellsUptoSaid:=netTells.proved
end Go.Proofs.YtohoggieaanllaaGreat
