import Derived.Test.YtgahmammhclobaaJ5
import Derived.Test.YtgahmammhclobaaRows
import Derived.Test.YtgahmammhclobaaLlCodecBack
import Derived.Test.YtgahmammhclobaaLpCodecBack
set_option linter.all false
set_option linter.unusedSimpArgs false
namespace Go.Proofs.Ytgahmammhclobaa.codecBack
open Go.ChangeShapes Go.WideShapes Go.ChangeAt Go.RowKit
theorem proved:Rows.CodecBackUptoSaid :=
  OpenClaim.holds_of_cond 5 Try.f5 rfl rfl rfl rfl rfl rfl rfl ⟨rfl,rfl,rfl,rfl,rfl⟩ rfl rfl rfl rfl rfl p_named Try.func5 p_closed p_inst p_wrap
    (fun os started H enc _ F0=>lifted os started H enc F0)
#print axioms proved
end Go.Proofs.Ytgahmammhclobaa.codecBack
namespace Go.Proofs.Ytgahmammhclobaa
theorem codecBack_holds:Rows.CodecBackUptoSaid:=codecBack.proved
end Go.Proofs.Ytgahmammhclobaa
