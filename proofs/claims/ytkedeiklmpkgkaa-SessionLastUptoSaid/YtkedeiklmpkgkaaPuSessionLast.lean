import Derived.Test.YtkedeiklmpkgkaaJ5
import Derived.Test.YtkedeiklmpkgkaaL1
import Derived.Test.YtkedeiklmpkgkaaSa
set_option linter.all false
set_option linter.unusedSimpArgs false
set_option maxRecDepth 20000
namespace Go.Proofs.Ytkedeiklmpkgkaa.sessionLast
theorem pure:Jr (dx fP 4) 3 [.list (.agg [(.int .i64),(.int .i64),(.int .i64),(.int .i64)])] 1048576:=by
 intro ds h hb
 obtain⟨d0,ds,rfl,h,x0,e0,b0,o0⟩:=mW (Kl ql mh rfl) h
 obtain rfl:=AZ h
 simp only[D.kI]at hb
 have hF:=kF x0 o0 (by omega)
 have ea:encArgs [.list (.agg [(.int .i64),(.int .i64),(.int .i64),(.int .i64)])] [d0]=[(fA x0)]:=by
  simp only[encArgs,oH,e0,List.headD_cons]
  try rfl
 have hs:=lN 0 hF
 rw[←ea]at hs
 exact⟨_,hs⟩
end Go.Proofs.Ytkedeiklmpkgkaa.sessionLast
