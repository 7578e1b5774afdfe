import Derived.Test.YtkedeiklmpkgkaaJ5
import Derived.Test.YtkedeiklmpkgkaaL4
import Derived.Test.YtkedeiklmpkgkaaFa
set_option linter.all false
set_option linter.unusedSimpArgs false
set_option maxRecDepth 20000
namespace Go.Proofs.Ytkedeiklmpkgkaa.walTells
theorem pure:Zx (aI aR 9) 8 [.list (.agg [(.int .i64),(.int .i64),(.list (.list (.int .u8)))]),.list (.int .u8)] 1048576:=by
 intro ds h hb
 obtain⟨d0,ds,rfl,h,x0,e0,b0,o0⟩:=vw (Vz AY uE rfl) h
 obtain⟨d1,ds,rfl,h,x1,e1,b1,o1⟩:=vw (Vz ZG oL rfl) h
 obtain rfl:=O9 h
 simp only[D.qW]at hb
 have hF:=tV x0 x1 o0 o1 (by omega)
 have ea:encArgs [.list (.agg [(.int .i64),(.int .i64),(.list (.list (.int .u8)))]),.list (.int .u8)] [d0,d1]=[(fB x0),(jl x1)]:=by
  simp only[encArgs,yJ,e0,e1,List.headD_cons]
  try rfl
 have hs:=xu 0 hF
 rw[←ea]at hs
 exact⟨_,hs⟩
end Go.Proofs.Ytkedeiklmpkgkaa.walTells
