import Derived.Test.YtkedeiklmpkgkaaJ5
import Derived.Test.YtkedeiklmpkgkaaL1
import Derived.Test.YtkedeiklmpkgkaaGa
set_option linter.all false
set_option linter.unusedSimpArgs false
set_option maxRecDepth 20000
namespace Go.Proofs.Ytkedeiklmpkgkaa.shardImage
theorem pure:abb (aY bA 10) 11 [.int .i64,.int .i64,.list (.agg [(.int .i64),(.int .i64),(.int .i64),(.int .i64),(.int .i64),(.int .i64),(.int .i64),.str]),.list (.agg [(.int .i64),(.int .i64),(.int .i64),(.int .i64),(.int .i64),(.int .i64),(.int .i64),.str])] 1048576:=by
 intro ds h hb
 obtain⟨d0,ds,rfl,h,x0,e0,b0,o0⟩:=lq Na h
 obtain⟨d1,ds,rfl,h,x1,e1,b1,o1⟩:=lq Na h
 obtain⟨d2,ds,rfl,h,x2,e2,b2,o2⟩:=lq (abh H8 A_ rfl) h
 obtain⟨d3,ds,rfl,h,x3,e3,b3,o3⟩:=lq (abh H8 A_ rfl) h
 obtain rfl:=Ri h
 simp only[D.wu]at hb
 have hF:=xq x0 x1 x2 x3 o0 o1 o2 o3 (by omega)
 have ea:encArgs [.int .i64,.int .i64,.list (.agg [(.int .i64),(.int .i64),(.int .i64),(.int .i64),(.int .i64),(.int .i64),(.int .i64),.str]),.list (.agg [(.int .i64),(.int .i64),(.int .i64),(.int .i64),(.int .i64),(.int .i64),(.int .i64),.str])] [d0,d1,d2,d3]=[(.int .i64 x0),(.int .i64 x1),(fE x2),(fE x3)]:=by
  simp only[encArgs,Cn,e0,e1,e2,e3,List.headD_cons]
  try rfl
 have hs:=zP 0 hF
 rw[←ea]at hs
 exact⟨_,hs⟩
end Go.Proofs.Ytkedeiklmpkgkaa.shardImage
