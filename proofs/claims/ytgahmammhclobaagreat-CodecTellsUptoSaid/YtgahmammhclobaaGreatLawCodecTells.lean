import Derived.Test.YtgahmammhclobaaGreatJ5
import Derived.Test.YtgahmammhclobaaGreatRows
import Derived.Test.YtgahmammhclobaaGreatLlCodecTells
import Derived.Test.YtgahmammhclobaaGreatLpCodecTells
set_option linter.all false
set_option linter.unusedSimpArgs false
namespace Go.Proofs.YtgahmammhclobaaGreat.codecTells
open Go.ChangeShapes Go.WideShapes Go.ChangeAt Go.RowKit
theorem proved:Rows.CodecTellsUptoSaid :=
  OpenClaim.holds_of_cond 3 Tryz.f3 rfl rfl rfl rfl rfl rfl rfl ⟨rfl,rfl,rfl,rfl,rfl⟩ rfl rfl rfl rfl rfl p_named Tryz.func3 p_closed p_inst p_wrap
    (fun os started H enc _ F0=>lifted os started H enc F0)
#print axioms proved
end Go.Proofs.YtgahmammhclobaaGreat.codecTells
namespace Go.Proofs.YtgahmammhclobaaGreat
theorem codecTells_holds:Rows.CodecTellsUptoSaid:=codecTells.proved
end Go.Proofs.YtgahmammhclobaaGreat
