/- The data's types. -/
import Derived.Test.YteibgagdnidojaaJ5
set_option linter.all false
set_option maxRecDepth 100000
namespace Go.Proofs.Yteibgagdnidojaa
def F_B (l : List UInt8) : List AV := l.map fun x => (byteC x)
theorem R_B : Row F_B (fun x => [(byteC x)]) 1 := row_map _
def l_B (l : List UInt8) : AV := .list 1 l.length (F_B l) false
def F_LB (l : List (List UInt8)) : List AV := l.map fun x => (l_B x)
theorem R_LB : Row F_LB (fun x => [(l_B x)]) 1 := row_map _
def l_LB (l : List (List UInt8)) : AV := .list 1 l.length (F_LB l) false
def F_I (l : List Int) : List AV := l.map fun x => (.int .i64 x)
theorem R_I : Row F_I (fun x => [(.int .i64 x)]) 1 := row_map _
def l_I (l : List Int) : AV := .list 1 l.length (F_I l) false
structure osmosislaw4_Raw where
  What : Int
  N : Int
  Parts : List (List UInt8)

instance : Inhabited osmosislaw4_Raw := ⟨⟨0, 0, []⟩⟩
def e_osmosislaw4_Raw (x : osmosislaw4_Raw) : List AV := [(.int .i64 x.What), (.int .i64 x.N), (l_LB x.Parts)]
theorem n_osmosislaw4_Raw (x : osmosislaw4_Raw) : (e_osmosislaw4_Raw x).length = 3 := rfl
def F_osmosislaw4_Raw (l : List osmosislaw4_Raw) : List AV := l.flatMap e_osmosislaw4_Raw
theorem R_osmosislaw4_Raw : Row F_osmosislaw4_Raw e_osmosislaw4_Raw 3 := row_flat n_osmosislaw4_Raw
def l_osmosislaw4_Raw (l : List osmosislaw4_Raw) : AV := .list 3 l.length (F_osmosislaw4_Raw l) false
end Go.Proofs.Yteibgagdnidojaa
