import Derived.Test.YtgahmammhclobaaGreatJ5
import Derived.Test.YtgahmammhclobaaGreatRows
import Derived.Test.YtgahmammhclobaaGreatLlMsgBack
import Derived.Test.YtgahmammhclobaaGreatLpMsgBack
set_option linter.all false
set_option linter.unusedSimpArgs false
namespace Go.Proofs.YtgahmammhclobaaGreat.msgBack
open Go.ChangeShapes Go.WideShapes Go.ChangeAt Go.RowKit
theorem proved:Rows.MsgBackUptoSaid :=
 OpenClaim.holds_of_cond 6 Tryz.f6 rfl rfl rfl rfl rfl rfl rfl ⟨rfl,rfl,rfl,rfl,rfl⟩ rfl rfl rfl rfl rfl p_named Tryz.func6 p_closed p_inst p_wrap
  (fun os started H enc _ F0=>lifted os started H enc F0)
#print axioms proved
end Go.Proofs.YtgahmammhclobaaGreat.msgBack
namespace Go.Proofs.YtgahmammhclobaaGreat
theorem msgBack_holds:Rows.MsgBackUptoSaid:=msgBack.proved
end Go.Proofs.YtgahmammhclobaaGreat
