import Derived.Test.YtgahmammhclobaaJ5
import Derived.Test.YtgahmammhclobaaXrCodecApart
import Derived.Test.YtgahmammhclobaaK7
set_option linter.all false
set_option linter.unusedSimpArgs false
set_option maxRecDepth 20000
namespace Go.Proofs.Ytgahmammhclobaa.codecApart
theorem pure:WLaw (wcalls atab 13) 3 [.agg [(.int .i64),(.int .i64),(.int .i64),(.int .i64),(.int .i64),(.int .i64),(.int .i64),.str],.agg [(.int .i64),(.int .i64),(.int .i64),(.int .i64),(.int .i64),(.int .i64),(.int .i64),.str],.int .i64,.int .i64,.list (.agg [(.int .i64),(.int .i64),(.int .i64),(.int .i64),(.int .i64),(.int .i64),(.int .i64),.str]),.list (.agg [(.int .i64),(.int .i64),(.int .i64),(.int .i64),(.int .i64),(.int .i64),(.int .i64),.str])] 1048576:=by
  intro ds h hb
  obtain ⟨d0,ds,rfl,h,x0,e0,b0,o0⟩:=are_cons' Rt_oH_RawOp h
  obtain ⟨d1,ds,rfl,h,x1,e1,b1,o1⟩:=are_cons' Rt_oH_RawOp h
  obtain ⟨d2,ds,rfl,h,x2,e2,b2,o2⟩:=are_cons' Rt_I h
  obtain ⟨d3,ds,rfl,h,x3,e3,b3,o3⟩:=are_cons' Rt_I h
  obtain ⟨d4,ds,rfl,h,x4,e4,b4,o4⟩:=are_cons' (Rt_L Rt_oH_RawOp R_oH_RawOp rfl) h
  obtain ⟨d5,ds,rfl,h,x5,e5,b5,o5⟩:=are_cons' (Rt_L Rt_oH_RawOp R_oH_RawOp rfl) h
  obtain rfl:=are_nil h
  simp only [D.bulks] at hb
  have hF:=osmosislaw9_CodecApart_true x0 x1 x2 x3 x4 x5 o0 o1 o2 o3 o4 o5 (by omega)
  have ea:encArgs [.agg [(.int .i64),(.int .i64),(.int .i64),(.int .i64),(.int .i64),(.int .i64),(.int .i64),.str],.agg [(.int .i64),(.int .i64),(.int .i64),(.int .i64),(.int .i64),(.int .i64),(.int .i64),.str],.int .i64,.int .i64,.list (.agg [(.int .i64),(.int .i64),(.int .i64),(.int .i64),(.int .i64),(.int .i64),(.int .i64),.str]),.list (.agg [(.int .i64),(.int .i64),(.int .i64),(.int .i64),(.int .i64),(.int .i64),(.int .i64),.str])] [d0,d1,d2,d3,d4,d5]=[(.agg (e_oH_RawOp x0)),(.agg (e_oH_RawOp x1)),(.int .i64 x2),(.int .i64 x3),(l_oH_RawOp x4),(l_oH_RawOp x5)]:=by
    simp only [encArgs,encArg,e0,e1,e2,e3,e4,e5,List.headD_cons]
    try rfl
  have hs:=s_osmosislaw9_CodecApart 0 hF
  rw [← ea] at hs
  exact ⟨_,hs⟩
end Go.Proofs.Ytgahmammhclobaa.codecApart
