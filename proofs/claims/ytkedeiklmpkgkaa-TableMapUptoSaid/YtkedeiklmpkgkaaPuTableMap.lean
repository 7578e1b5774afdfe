import Derived.Test.YtkedeiklmpkgkaaJ5
import Derived.Test.YtkedeiklmpkgkaaL1
import Derived.Test.YtkedeiklmpkgkaaTb
set_option linter.all false
set_option linter.unusedSimpArgs false
set_option maxRecDepth 20000
namespace Go.Proofs.Ytkedeiklmpkgkaa.tableMap
theorem pure:QN (bB bG 8) 9 [.list (.agg [(.int .i64),(.int .i64),(.int .i64),(.int .i64),(.int .i64),(.int .i64),(.int .i64),.str])] 1048576:=by
 intro ds h hb
 obtain⟨d0,ds,rfl,h,x0,e0,b0,o0⟩:=jq (R5 EO Ac rfl) h
 obtain rfl:=GZ h
 simp only[D.m_]at hb
 have hF:=oO x0 o0 (by omega)
 have ea:encArgs [.list (.agg [(.int .i64),(.int .i64),(.int .i64),(.int .i64),(.int .i64),(.int .i64),(.int .i64),.str])] [d0]=[(jU x0)]:=by
  simp only[encArgs,su,e0,List.headD_cons]
  try rfl
 have hs:=qQ 0 hF
 rw[←ea]at hs
 exact⟨_,hs⟩
end Go.Proofs.Ytkedeiklmpkgkaa.tableMap
