import Derived.Test.YtgahmammhclobaaGreatJ5
import Derived.Test.YtgahmammhclobaaGreatXrRecTells
import Derived.Test.YtgahmammhclobaaGreatKe
set_option linter.all false
set_option linter.unusedSimpArgs false
set_option maxRecDepth 20000
namespace Go.Proofs.YtgahmammhclobaaGreat.recTells
theorem pure:WLaw (wcalls atab 14) 4 [.agg [(.int .i64),(.int .i64),(.int .i64),(.int .i64),(.int .i64),(.int .i64),(.agg [(.int .i64),(.int .i64),(.int .i64),(.int .i64),(.int .i64),(.int .i64),(.int .i64),.str]),(.list (.agg [(.int .i64),(.int .i64),(.int .i64),(.int .i64),(.int .i64),(.int .i64),(.int .i64),.str]))],.agg [(.int .i64),(.int .i64),(.int .i64),(.int .i64),(.int .i64),(.int .i64),(.agg [(.int .i64),(.int .i64),(.int .i64),(.int .i64),(.int .i64),(.int .i64),(.int .i64),.str]),(.list (.agg [(.int .i64),(.int .i64),(.int .i64),(.int .i64),(.int .i64),(.int .i64),(.int .i64),.str]))],.list (.int .u8),.int .i64,.int .u8,.int .i64] 1048576:=by
 intro ds h hb
 obtain ⟨d0,ds,rfl,h,x0,e0,b0,o0⟩:=are_cons' Rt_oH_RawRec h
 obtain ⟨d1,ds,rfl,h,x1,e1,b1,o1⟩:=are_cons' Rt_oH_RawRec h
 obtain ⟨d2,ds,rfl,h,x2,e2,b2,o2⟩:=are_cons' (Rt_L Rt_B R_B rfl) h
 obtain ⟨d3,ds,rfl,h,x3,e3,b3,o3⟩:=are_cons' Rt_I h
 obtain ⟨d4,ds,rfl,h,x4,e4,b4,o4⟩:=are_cons' Rt_B h
 obtain ⟨d5,ds,rfl,h,x5,e5,b5,o5⟩:=are_cons' Rt_I h
 obtain rfl:=are_nil h
 simp only [D.bulks] at hb
 have hF:=osmosislaw11_RecTells_true x0 x1 x2 x3 x4 x5 o0 o1 o2 o3 o4 o5 (by omega)
 have ea:encArgs [.agg [(.int .i64),(.int .i64),(.int .i64),(.int .i64),(.int .i64),(.int .i64),(.agg [(.int .i64),(.int .i64),(.int .i64),(.int .i64),(.int .i64),(.int .i64),(.int .i64),.str]),(.list (.agg [(.int .i64),(.int .i64),(.int .i64),(.int .i64),(.int .i64),(.int .i64),(.int .i64),.str]))],.agg [(.int .i64),(.int .i64),(.int .i64),(.int .i64),(.int .i64),(.int .i64),(.agg [(.int .i64),(.int .i64),(.int .i64),(.int .i64),(.int .i64),(.int .i64),(.int .i64),.str]),(.list (.agg [(.int .i64),(.int .i64),(.int .i64),(.int .i64),(.int .i64),(.int .i64),(.int .i64),.str]))],.list (.int .u8),.int .i64,.int .u8,.int .i64] [d0,d1,d2,d3,d4,d5]=[(.agg (e_oH_RawRec x0)),(.agg (e_oH_RawRec x1)),(l_B x2),(.int .i64 x3),(.int .u8 (x4.toNat:Int)),(.int .i64 x5)]:=by
  simp only [encArgs,encArg,e0,e1,e2,e3,e4,e5,List.headD_cons]
  try rfl
 have hs:=s_osmosislaw11_RecTells 0 hF
 rw [← ea] at hs
 exact ⟨_,hs⟩
end Go.Proofs.YtgahmammhclobaaGreat.recTells
