import Derived.Test.YtgahmammhclobaaGreatJ5
import Derived.Test.YtgahmammhclobaaGreatRows
import Derived.Test.YtgahmammhclobaaGreatLlRecTells
import Derived.Test.YtgahmammhclobaaGreatLpRecTells
set_option linter.all false
set_option linter.unusedSimpArgs false
namespace Go.Proofs.YtgahmammhclobaaGreat.recTells
open Go.ChangeShapes Go.WideShapes Go.ChangeAt Go.RowKit
theorem proved:Rows.RecTellsUptoSaid :=
 OpenClaim.holds_of_cond 4 Tryz.f4 rfl rfl rfl rfl rfl rfl rfl ⟨rfl,rfl,rfl,rfl,rfl⟩ rfl rfl rfl rfl rfl p_named Tryz.func4 p_closed p_inst p_wrap
  (fun os started H enc _ F0=>lifted os started H enc F0)
#print axioms proved
end Go.Proofs.YtgahmammhclobaaGreat.recTells
namespace Go.Proofs.YtgahmammhclobaaGreat
theorem recTells_holds:Rows.RecTellsUptoSaid:=recTells.proved
end Go.Proofs.YtgahmammhclobaaGreat
