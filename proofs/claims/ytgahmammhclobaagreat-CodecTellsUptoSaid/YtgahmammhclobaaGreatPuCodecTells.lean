import Derived.Test.YtgahmammhclobaaGreatJ5
import Derived.Test.YtgahmammhclobaaGreatXrCodecTells
import Derived.Test.YtgahmammhclobaaGreatKd
set_option linter.all false
set_option linter.unusedSimpArgs false
set_option maxRecDepth 20000
namespace Go.Proofs.YtgahmammhclobaaGreat.codecTells
theorem pure:WLaw (wcalls atab 13) 3 [.list (.int .u8),.agg [(.int .i64),(.int .i64),(.int .i64),(.int .i64),(.int .i64),(.int .i64),(.int .i64),.str],.int .i64,.int .i64,.int .i64,.int .i64,.int .i64,.list (.agg [(.int .i64),(.int .i64),(.int .i64),(.int .i64),(.int .i64),(.int .i64),(.int .i64),.str]),.list (.int .u8),.int .i64,.int .u8,.int .i64] 1048576:=by
  intro ds h hb
  obtain ⟨d0,ds,rfl,h,x0,e0,b0,o0⟩:=are_cons' (Rt_L Rt_B R_B rfl) h
  obtain ⟨d1,ds,rfl,h,x1,e1,b1,o1⟩:=are_cons' Rt_oH_RawOp h
  obtain ⟨d2,ds,rfl,h,x2,e2,b2,o2⟩:=are_cons' Rt_I h
  obtain ⟨d3,ds,rfl,h,x3,e3,b3,o3⟩:=are_cons' Rt_I h
  obtain ⟨d4,ds,rfl,h,x4,e4,b4,o4⟩:=are_cons' Rt_I h
  obtain ⟨d5,ds,rfl,h,x5,e5,b5,o5⟩:=are_cons' Rt_I h
  obtain ⟨d6,ds,rfl,h,x6,e6,b6,o6⟩:=are_cons' Rt_I h
  obtain ⟨d7,ds,rfl,h,x7,e7,b7,o7⟩:=are_cons' (Rt_L Rt_oH_RawOp R_oH_RawOp rfl) h
  obtain ⟨d8,ds,rfl,h,x8,e8,b8,o8⟩:=are_cons' (Rt_L Rt_B R_B rfl) h
  obtain ⟨d9,ds,rfl,h,x9,e9,b9,o9⟩:=are_cons' Rt_I h
  obtain ⟨d10,ds,rfl,h,x10,e10,b10,o10⟩:=are_cons' Rt_B h
  obtain ⟨d11,ds,rfl,h,x11,e11,b11,o11⟩:=are_cons' Rt_I h
  obtain rfl:=are_nil h
  simp only [D.bulks] at hb
  have hF:=osmosislaw9_CodecTells_true x0 x1 x2 x3 x4 x5 x6 x7 x8 x9 x10 x11 o0 o1 o2 o3 o4 o5 o6 o7 o8 o9 o10 o11 (by omega)
  have ea:encArgs [.list (.int .u8),.agg [(.int .i64),(.int .i64),(.int .i64),(.int .i64),(.int .i64),(.int .i64),(.int .i64),.str],.int .i64,.int .i64,.int .i64,.int .i64,.int .i64,.list (.agg [(.int .i64),(.int .i64),(.int .i64),(.int .i64),(.int .i64),(.int .i64),(.int .i64),.str]),.list (.int .u8),.int .i64,.int .u8,.int .i64] [d0,d1,d2,d3,d4,d5,d6,d7,d8,d9,d10,d11]=[(l_B x0),(.agg (e_oH_RawOp x1)),(.int .i64 x2),(.int .i64 x3),(.int .i64 x4),(.int .i64 x5),(.int .i64 x6),(l_oH_RawOp x7),(l_B x8),(.int .i64 x9),(.int .u8 (x10.toNat:Int)),(.int .i64 x11)]:=by
    simp only [encArgs,encArg,e0,e1,e2,e3,e4,e5,e6,e7,e8,e9,e10,e11,List.headD_cons]
    try rfl
  have hs:=s_osmosislaw9_CodecTells 0 hF
  rw [← ea] at hs
  exact ⟨_,hs⟩
end Go.Proofs.YtgahmammhclobaaGreat.codecTells
