import Derived.Test.YtgahmammhclobaaJ5
import Derived.Test.YtgahmammhclobaaRows
import Derived.Test.YtgahmammhclobaaLlRecBack
import Derived.Test.YtgahmammhclobaaLpRecBack
set_option linter.all false
set_option linter.unusedSimpArgs false
namespace Go.Proofs.Ytgahmammhclobaa.recBack
open Go.ChangeShapes Go.WideShapes Go.ChangeAt Go.RowKit
theorem proved:Rows.RecBackUptoSaid :=
  OpenClaim.holds_of_cond 7 Try.f7 rfl rfl rfl rfl rfl rfl rfl ⟨rfl,rfl,rfl,rfl,rfl⟩ rfl rfl rfl rfl rfl p_named Try.func7 p_closed p_inst p_wrap
    (fun os started H enc _ F0=>lifted os started H enc F0)
#print axioms proved
end Go.Proofs.Ytgahmammhclobaa.recBack
namespace Go.Proofs.Ytgahmammhclobaa
theorem recBack_holds:Rows.RecBackUptoSaid:=recBack.proved
end Go.Proofs.Ytgahmammhclobaa
