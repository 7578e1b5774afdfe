import Derived.Test.YtgahmammhclobaaGreatJ5
import Derived.Test.YtgahmammhclobaaGreatXrMsgBack
import Derived.Test.YtgahmammhclobaaGreatKh
set_option linter.all false
set_option linter.unusedSimpArgs false
set_option maxRecDepth 20000
namespace Go.Proofs.YtgahmammhclobaaGreat.msgBack
theorem pure:WLaw (wcalls atab 15) 6 [.agg [(.int .i64),(.int .i64),(.int .i64),(.int .i64),(.int .i64),(.int .i64),(.int .i64),(.int .i64),(.int .i64),(.int .i64),.bool,(.agg [(.int .i64),(.int .i64),(.int .i64),(.int .i64),(.int .i64),(.int .i64),(.int .i64),.str]),(.list (.int .i64)),(.list (.agg [(.int .i64),(.int .i64),(.int .i64),(.int .i64),.bool])),(.list (.agg [(.int .i64),(.int .i64),(.int .i64),(.int .i64),(.int .i64),(.int .i64),(.int .i64),.str]))],.agg [(.int .i64),(.int .i64),(.int .i64),(.int .i64),(.int .i64),(.int .i64),(.int .i64),(.int .i64),(.int .i64),(.int .i64),.bool,(.agg [(.int .i64),(.int .i64),(.int .i64),(.int .i64),(.int .i64),(.int .i64),(.int .i64),.str]),(.list (.int .i64)),(.list (.agg [(.int .i64),(.int .i64),(.int .i64),(.int .i64),.bool])),(.list (.agg [(.int .i64),(.int .i64),(.int .i64),(.int .i64),(.int .i64),(.int .i64),(.int .i64),.str]))],.int .i64] 1048576:=by
 intro ds h hb
 obtain ⟨d0,ds,rfl,h,x0,e0,b0,o0⟩:=are_cons' Rt_oH_RawMsg h
 obtain ⟨d1,ds,rfl,h,x1,e1,b1,o1⟩:=are_cons' Rt_oH_RawMsg h
 obtain ⟨d2,ds,rfl,h,x2,e2,b2,o2⟩:=are_cons' Rt_I h
 obtain rfl:=are_nil h
 simp only [D.bulks] at hb
 have hF:=osmosislaw10_MsgBack_true x0 x1 x2 o0 o1 o2 (by omega)
 have ea:encArgs [.agg [(.int .i64),(.int .i64),(.int .i64),(.int .i64),(.int .i64),(.int .i64),(.int .i64),(.int .i64),(.int .i64),(.int .i64),.bool,(.agg [(.int .i64),(.int .i64),(.int .i64),(.int .i64),(.int .i64),(.int .i64),(.int .i64),.str]),(.list (.int .i64)),(.list (.agg [(.int .i64),(.int .i64),(.int .i64),(.int .i64),.bool])),(.list (.agg [(.int .i64),(.int .i64),(.int .i64),(.int .i64),(.int .i64),(.int .i64),(.int .i64),.str]))],.agg [(.int .i64),(.int .i64),(.int .i64),(.int .i64),(.int .i64),(.int .i64),(.int .i64),(.int .i64),(.int .i64),(.int .i64),.bool,(.agg [(.int .i64),(.int .i64),(.int .i64),(.int .i64),(.int .i64),(.int .i64),(.int .i64),.str]),(.list (.int .i64)),(.list (.agg [(.int .i64),(.int .i64),(.int .i64),(.int .i64),.bool])),(.list (.agg [(.int .i64),(.int .i64),(.int .i64),(.int .i64),(.int .i64),(.int .i64),(.int .i64),.str]))],.int .i64] [d0,d1,d2]=[(.agg (e_oH_RawMsg x0)),(.agg (e_oH_RawMsg x1)),(.int .i64 x2)]:=by
  simp only [encArgs,encArg,e0,e1,e2,List.headD_cons]
  try rfl
 have hs:=s_osmosislaw10_MsgBack 0 hF
 rw [← ea] at hs
 exact ⟨_,hs⟩
end Go.Proofs.YtgahmammhclobaaGreat.msgBack
