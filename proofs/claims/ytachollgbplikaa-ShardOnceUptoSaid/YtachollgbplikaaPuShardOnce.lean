import Derived.Test.YtachollgbplikaaJ5
import Derived.Test.YtachollgbplikaaXrShardOnce
import Derived.Test.YtachollgbplikaaE6
set_option linter.all false
set_option linter.unusedSimpArgs false
set_option maxRecDepth 20000
namespace Go.Proofs.Ytachollgbplikaa.shardOnce
theorem pure:WLaw (wcalls atab 10) 18 [.list (.agg [(.int .i64),(.int .i64),(.int .i64),(.int .i64),(.int .i64),(.int .i64),(.int .i64),.str]),.list (.int .i64)] 1048576:=by
  intro ds h hb
  obtain ⟨d0,ds,rfl,h,x0,e0,b0,o0⟩:=are_cons' (Rt_L Rt_oH_RawOp R_oH_RawOp rfl) h
  obtain ⟨d1,ds,rfl,h,x1,e1,b1,o1⟩:=are_cons' (Rt_L Rt_I R_I rfl) h
  obtain rfl:=are_nil h
  simp only [D.bulks] at hb
  have hF:=osmosislaw8_ShardOnce_true x0 x1 o0 o1 (by omega)
  have ea:encArgs [.list (.agg [(.int .i64),(.int .i64),(.int .i64),(.int .i64),(.int .i64),(.int .i64),(.int .i64),.str]),.list (.int .i64)] [d0,d1]=[(l_oH_RawOp x0),(l_I x1)]:=by
    simp only [encArgs,encArg,e0,e1,List.headD_cons]
    try rfl
  have hs:=s_osmosislaw8_ShardOnce 0 hF
  rw [← ea] at hs
  exact ⟨_,hs⟩
end Go.Proofs.Ytachollgbplikaa.shardOnce
