/- The law WalRewritten, where what it reads is of bulk at most 1048576: what was shown in V, laid into the row. -/
import Derived.Test.YtachollgbplikaaJ5
import Derived.Test.YtachollgbplikaaRows
import Derived.Test.YtachollgbplikaaLlWalRewritten
import Derived.Test.YtachollgbplikaaLpWalRewritten
set_option linter.all false
set_option linter.unusedSimpArgs false
namespace Go.Proofs.Ytachollgbplikaa.walRewritten
open Go.ChangeShapes Go.WideShapes Go.ChangeAt Go.RowKit

theorem proved : Rows.WalRewrittenUptoSaid :=
  OpenClaim.holds_of_cond 12 Try.f12 rfl rfl rfl rfl rfl rfl rfl ⟨rfl, rfl, rfl, rfl, rfl⟩ rfl rfl rfl rfl rfl p_named Try.func12 p_closed p_inst p_wrap
    (fun os started H enc _ F0 => lifted os started H enc F0)

#print axioms proved
end Go.Proofs.Ytachollgbplikaa.walRewritten

namespace Go.Proofs.Ytachollgbplikaa
/-- The row, under a short name, for the claim. -/
theorem walRewritten_holds : Rows.WalRewrittenUptoSaid := walRewritten.proved
end Go.Proofs.Ytachollgbplikaa
