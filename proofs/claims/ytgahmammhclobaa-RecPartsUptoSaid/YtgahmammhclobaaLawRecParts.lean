import Derived.Test.YtgahmammhclobaaJ5
import Derived.Test.YtgahmammhclobaaRows
import Derived.Test.YtgahmammhclobaaLlRecParts
import Derived.Test.YtgahmammhclobaaLpRecParts
set_option linter.all false
set_option linter.unusedSimpArgs false
namespace Go.Proofs.Ytgahmammhclobaa.recParts
open Go.ChangeShapes Go.WideShapes Go.ChangeAt Go.RowKit
theorem proved:Rows.RecPartsUptoSaid :=
  OpenClaim.holds_of_cond 8 Try.f8 rfl rfl rfl rfl rfl rfl rfl ⟨rfl,rfl,rfl,rfl,rfl⟩ rfl rfl rfl rfl rfl p_named Try.func8 p_closed p_inst p_wrap
    (fun os started H enc _ F0=>lifted os started H enc F0)
#print axioms proved
end Go.Proofs.Ytgahmammhclobaa.recParts
namespace Go.Proofs.Ytgahmammhclobaa
theorem recParts_holds:Rows.RecPartsUptoSaid:=recParts.proved
end Go.Proofs.Ytgahmammhclobaa
