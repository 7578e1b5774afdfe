import Derived.Test.YtgahmammhclobaaJ5
import Derived.Test.YtgahmammhclobaaXrRecParts
import Derived.Test.YtgahmammhclobaaKa
set_option linter.all false
set_option linter.unusedSimpArgs false
set_option maxRecDepth 20000
namespace Go.Proofs.Ytgahmammhclobaa.recParts
theorem pure:WLaw (wcalls atab 14) 8 [.agg [(.int .i64),(.int .i64),(.int .i64),(.int .i64),(.int .i64),(.int .i64),(.agg [(.int .i64),(.int .i64),(.int .i64),(.int .i64),(.int .i64),(.int .i64),(.int .i64),.str]),(.list (.agg [(.int .i64),(.int .i64),(.int .i64),(.int .i64),(.int .i64),(.int .i64),(.int .i64),.str]))],.int .i64] 1048576:=by
  intro ds h hb
  obtain ⟨d0,ds,rfl,h,x0,e0,b0,o0⟩:=are_cons' Rt_oH_RawRec h
  obtain ⟨d1,ds,rfl,h,x1,e1,b1,o1⟩:=are_cons' Rt_I h
  obtain rfl:=are_nil h
  simp only [D.bulks] at hb
  have hF:=osmosislaw11_RecParts_true x0 x1 o0 o1 (by omega)
  have ea:encArgs [.agg [(.int .i64),(.int .i64),(.int .i64),(.int .i64),(.int .i64),(.int .i64),(.agg [(.int .i64),(.int .i64),(.int .i64),(.int .i64),(.int .i64),(.int .i64),(.int .i64),.str]),(.list (.agg [(.int .i64),(.int .i64),(.int .i64),(.int .i64),(.int .i64),(.int .i64),(.int .i64),.str]))],.int .i64] [d0,d1]=[(.agg (e_oH_RawRec x0)),(.int .i64 x1)]:=by
    simp only [encArgs,encArg,e0,e1,List.headD_cons]
    try rfl
  have hs:=s_osmosislaw11_RecParts 0 hF
  rw [← ea] at hs
  exact ⟨_,hs⟩
end Go.Proofs.Ytgahmammhclobaa.recParts
