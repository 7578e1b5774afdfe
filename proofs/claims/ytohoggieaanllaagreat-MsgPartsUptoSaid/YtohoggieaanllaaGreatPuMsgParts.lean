import Derived.Test.YtohoggieaanllaaGreatJ5
import Derived.Test.YtohoggieaanllaaGreatXrMsgParts
import Derived.Test.YtohoggieaanllaaGreatKk
set_option linter.all false
set_option linter.unusedSimpArgs false
set_option maxRecDepth 20000
namespace Go.Proofs.YtohoggieaanllaaGreat.msgParts
theorem pure:aml (aG aH 15) 4 [.agg [(.int .i64),(.int .i64),(.int .i64),(.int .i64),(.int .i64),(.int .i64),(.int .i64),(.int .i64),(.int .i64),(.int .i64),.bool,(.agg [(.int .i64),(.int .i64),(.int .i64),(.int .i64),(.int .i64),(.int .i64),(.int .i64),.str]),(.list (.int .i64)),(.list (.agg [(.int .i64),(.int .i64),(.int .i64),(.int .i64),.bool])),(.list (.agg [(.int .i64),(.int .i64),(.int .i64),(.int .i64),(.int .i64),(.int .i64),(.int .i64),.str]))],.int .i64] 1048576:=by
 intro ds h hb
 obtain ⟨d0,ds,rfl,h,x0,e0,b0,o0⟩:=dW WW h
 obtain ⟨d1,ds,rfl,h,x1,e1,b1,o1⟩:=dW Bh h
 obtain rfl:=QZ h
 simp only [D.xU] at hb
 have hF:=B_ x0 x1 o0 o1 (by omega)
 have ea:encArgs [.agg [(.int .i64),(.int .i64),(.int .i64),(.int .i64),(.int .i64),(.int .i64),(.int .i64),(.int .i64),(.int .i64),(.int .i64),.bool,(.agg [(.int .i64),(.int .i64),(.int .i64),(.int .i64),(.int .i64),(.int .i64),(.int .i64),.str]),(.list (.int .i64)),(.list (.agg [(.int .i64),(.int .i64),(.int .i64),(.int .i64),.bool])),(.list (.agg [(.int .i64),(.int .i64),(.int .i64),(.int .i64),(.int .i64),(.int .i64),(.int .i64),.str]))],.int .i64] [d0,d1]=[(.agg (dG x0)),(.int .i64 x1)]:=by
  simp only [encArgs,HY,e0,e1,List.headD_cons]
  try rfl
 have hs:=E_ 0 hF
 rw [← ea] at hs
 exact ⟨_,hs⟩
end Go.Proofs.YtohoggieaanllaaGreat.msgParts
