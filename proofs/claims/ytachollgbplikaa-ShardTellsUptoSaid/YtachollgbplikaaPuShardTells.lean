import Derived.Test.YtachollgbplikaaJ5
import Derived.Test.YtachollgbplikaaXrShardTells
import Derived.Test.YtachollgbplikaaE4
set_option linter.all false
set_option linter.unusedSimpArgs false
set_option maxRecDepth 20000
namespace Go.Proofs.Ytachollgbplikaa.shardTells
theorem pure:WLaw (wcalls atab 10) 21 [.int .i64,.int .i64,.list (.agg [(.int .i64),(.int .i64),(.int .i64),(.int .i64),(.int .i64),(.int .i64),(.int .i64),.str]),.int .i64,.list (.agg [(.int .i64),(.int .i64),(.int .i64),(.int .i64),(.int .i64),(.int .i64),(.int .i64),.str])] 1048576:=by
  intro ds h hb
  obtain ⟨d0,ds,rfl,h,x0,e0,b0,o0⟩:=are_cons' Rt_I h
  obtain ⟨d1,ds,rfl,h,x1,e1,b1,o1⟩:=are_cons' Rt_I h
  obtain ⟨d2,ds,rfl,h,x2,e2,b2,o2⟩:=are_cons' (Rt_L Rt_oH_RawOp R_oH_RawOp rfl) h
  obtain ⟨d3,ds,rfl,h,x3,e3,b3,o3⟩:=are_cons' Rt_I h
  obtain ⟨d4,ds,rfl,h,x4,e4,b4,o4⟩:=are_cons' (Rt_L Rt_oH_RawOp R_oH_RawOp rfl) h
  obtain rfl:=are_nil h
  simp only [D.bulks] at hb
  have hF:=osmosislaw8_ShardTells_true x0 x1 x2 x3 x4 o0 o1 o2 o3 o4 (by omega)
  have ea:encArgs [.int .i64,.int .i64,.list (.agg [(.int .i64),(.int .i64),(.int .i64),(.int .i64),(.int .i64),(.int .i64),(.int .i64),.str]),.int .i64,.list (.agg [(.int .i64),(.int .i64),(.int .i64),(.int .i64),(.int .i64),(.int .i64),(.int .i64),.str])] [d0,d1,d2,d3,d4]=[(.int .i64 x0),(.int .i64 x1),(l_oH_RawOp x2),(.int .i64 x3),(l_oH_RawOp x4)]:=by
    simp only [encArgs,encArg,e0,e1,e2,e3,e4,List.headD_cons]
    rfl
  have hs:=s_osmosislaw8_ShardTells 0 hF
  rw [← ea] at hs
  exact ⟨_,hs⟩
end Go.Proofs.Ytachollgbplikaa.shardTells
