import Derived.Test.YtgahmammhclobaaJ5
import Derived.Test.YtgahmammhclobaaRows
import Derived.Test.YtgahmammhclobaaLlCodecApart
import Derived.Test.YtgahmammhclobaaLpCodecApart
set_option linter.all false
set_option linter.unusedSimpArgs false
namespace Go.Proofs.Ytgahmammhclobaa.codecApart
open Go.ChangeShapes Go.WideShapes Go.ChangeAt Go.RowKit
theorem proved:Rows.CodecApartUptoSaid :=
  OpenClaim.holds_of_cond 3 Try.f3 rfl rfl rfl rfl rfl rfl rfl ⟨rfl,rfl,rfl,rfl,rfl⟩ rfl rfl rfl rfl rfl p_named Try.func3 p_closed p_inst p_wrap
    (fun os started H enc _ F0=>lifted os started H enc F0)
#print axioms proved
end Go.Proofs.Ytgahmammhclobaa.codecApart
namespace Go.Proofs.Ytgahmammhclobaa
theorem codecApart_holds:Rows.CodecApartUptoSaid:=codecApart.proved
end Go.Proofs.Ytgahmammhclobaa
