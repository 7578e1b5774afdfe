import Derived.Test.YtkedeiklmpkgkaaJ5
import Derived.Test.YtkedeiklmpkgkaaL1
import Derived.Test.YtkedeiklmpkgkaaTc
set_option linter.all false
set_option linter.unusedSimpArgs false
set_option maxRecDepth 20000
namespace Go.Proofs.Ytkedeiklmpkgkaa.tableOrder
theorem pure:RN (bn bG 8) 10 [.list (.int .i64),.int .i64,.list (.agg [(.int .i64),(.int .i64),(.int .i64),(.int .i64),(.int .i64),(.int .i64),(.int .i64),.str])] 1048576:=by
 intro ds h hb
 obtain⟨d0,ds,rfl,h,x0,e0,b0,o0⟩:=iD (RS Ei Ur rfl) h
 obtain⟨d1,ds,rfl,h,x1,e1,b1,o1⟩:=iD Ei h
 obtain⟨d2,ds,rfl,h,x2,e2,b2,o2⟩:=iD (RS FP Bf rfl) h
 obtain rfl:=Iw h
 simp only[D.nR]at hb
 have hF:=oF x0 x1 x2 o0 o1 o2 (by omega)
 have ea:encArgs [.list (.int .i64),.int .i64,.list (.agg [(.int .i64),(.int .i64),(.int .i64),(.int .i64),(.int .i64),(.int .i64),(.int .i64),.str])] [d0,d1,d2]=[(RV x0),(.int .i64 x1),(iP x2)]:=by
  simp only[encArgs,tO,e0,e1,e2,List.headD_cons]
  try rfl
 have hs:=qH 0 hF
 rw[←ea]at hs
 exact⟨_,hs⟩
end Go.Proofs.Ytkedeiklmpkgkaa.tableOrder
