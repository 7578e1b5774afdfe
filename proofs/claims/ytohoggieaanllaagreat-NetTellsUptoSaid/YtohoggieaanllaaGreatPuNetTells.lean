import Derived.Test.YtohoggieaanllaaGreatJ6
import Derived.Test.YtohoggieaanllaaGreatNc
set_option linter.all false
set_option linter.unusedSimpArgs false
set_option maxRecDepth 20000
namespace Go.Proofs.YtohoggieaanllaaGreat.netTells
theorem pure:aAD (aQ aT 16) 7 [.list (.agg [(.int .i64),(.int .i64),(.int .i64),(.list (.agg [(.int .i64),(.int .i64),(.int .i64),(.int .i64),(.int .i64),(.int .i64),(.int .i64),(.int .i64),(.int .i64),(.int .i64),.bool,(.agg [(.int .i64),(.int .i64),(.int .i64),(.int .i64),(.int .i64),(.int .i64),(.int .i64),.str]),(.list (.int .i64)),(.list (.agg [(.int .i64),(.int .i64),(.int .i64),(.int .i64),.bool])),(.list (.agg [(.int .i64),(.int .i64),(.int .i64),(.int .i64),(.int .i64),(.int .i64),(.int .i64),.str]))]))])] 1048576:=by
 intro ds h hb
 obtain⟨d0,ds,rfl,h,x0,e0,b0,o0⟩:=fT (aqA Tk IY rfl) h
 obtain rfl:=Wn h
 simp only[D.CB]at hb
 have hF:=JX x0 o0 (by omega)
 have ea:encArgs [.list (.agg [(.int .i64),(.int .i64),(.int .i64),(.list (.agg [(.int .i64),(.int .i64),(.int .i64),(.int .i64),(.int .i64),(.int .i64),(.int .i64),(.int .i64),(.int .i64),(.int .i64),.bool,(.agg [(.int .i64),(.int .i64),(.int .i64),(.int .i64),(.int .i64),(.int .i64),(.int .i64),.str]),(.list (.int .i64)),(.list (.agg [(.int .i64),(.int .i64),(.int .i64),(.int .i64),.bool])),(.list (.agg [(.int .i64),(.int .i64),(.int .i64),(.int .i64),(.int .i64),(.int .i64),(.int .i64),.str]))]))])] [d0]=[(iJ x0)]:=by
  simp only[encArgs,QA,e0,List.headD_cons]
  try rfl
 have hs:=NK 0 hF
 rw[←ea]at hs
 exact⟨_,hs⟩
end Go.Proofs.YtohoggieaanllaaGreat.netTells
