/- The data's types. -/
import Derived.Test.YtkedeiklmpkgkaaJ5
set_option linter.all false
set_option maxRecDepth 100000
namespace Go.Proofs.Ytkedeiklmpkgkaa
def F_S (l : List (List UInt8)) : List AV := l.map fun x => (.str x)
theorem R_S : Row F_S (fun x => [(.str x)]) 1 := row_map _
theorem c_S : ∀ l, cleanL (F_S l) = true := clean_row R_S fun _ => rfl
def l_S (l : List (List UInt8)) : AV := .list 1 l.length (F_S l) false
def F_B (l : List UInt8) : List AV := l.map fun x => (byteC x)
theorem R_B : Row F_B (fun x => [(byteC x)]) 1 := row_map _
theorem c_B : ∀ l, cleanL (F_B l) = true := clean_row R_B fun _ => rfl
def l_B (l : List UInt8) : AV := .list 1 l.length (F_B l) false
end Go.Proofs.Ytkedeiklmpkgkaa
