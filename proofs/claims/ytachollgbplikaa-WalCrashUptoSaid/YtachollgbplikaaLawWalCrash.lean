/- The law WalCrash, where what it reads is of bulk at most 1048576: what was shown in V, laid into the row. -/
import Derived.Test.YtachollgbplikaaJ5
import Derived.Test.YtachollgbplikaaRows
import Derived.Test.YtachollgbplikaaLlWalCrash
import Derived.Test.YtachollgbplikaaLpWalCrash
set_option linter.all false
set_option linter.unusedSimpArgs false
namespace Go.Proofs.Ytachollgbplikaa.walCrash
open Go.ChangeShapes Go.WideShapes Go.ChangeAt Go.RowKit

theorem proved : Rows.WalCrashUptoSaid :=
  OpenClaim.holds_of_cond 9 Try.f9 rfl rfl rfl rfl rfl rfl rfl ⟨rfl, rfl, rfl, rfl, rfl⟩ rfl rfl rfl rfl rfl p_named Try.func9 p_closed p_inst p_wrap
    (fun os started H enc _ F0 => lifted os started H enc F0)

#print axioms proved
end Go.Proofs.Ytachollgbplikaa.walCrash

namespace Go.Proofs.Ytachollgbplikaa
/-- The row, under a short name, for the claim. -/
theorem walCrash_holds : Rows.WalCrashUptoSaid := walCrash.proved
end Go.Proofs.Ytachollgbplikaa
