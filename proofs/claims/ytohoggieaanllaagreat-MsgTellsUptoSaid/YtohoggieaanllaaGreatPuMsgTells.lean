import Derived.Test.YtohoggieaanllaaGreatJ5
import Derived.Test.YtohoggieaanllaaGreatXrMsgTells
import Derived.Test.YtohoggieaanllaaGreatKo
set_option linter.all false
set_option linter.unusedSimpArgs false
set_option maxRecDepth 20000
namespace Go.Proofs.YtohoggieaanllaaGreat.msgTells
theorem pure:awP (aF aH 15) 3 [.agg [(.int .i64),(.int .i64),(.int .i64),(.int .i64),(.int .i64),(.int .i64),(.int .i64),(.int .i64),(.int .i64),(.int .i64),.bool,(.agg [(.int .i64),(.int .i64),(.int .i64),(.int .i64),(.int .i64),(.int .i64),(.int .i64),.str]),(.list (.int .i64)),(.list (.agg [(.int .i64),(.int .i64),(.int .i64),(.int .i64),.bool])),(.list (.agg [(.int .i64),(.int .i64),(.int .i64),(.int .i64),(.int .i64),(.int .i64),(.int .i64),.str]))],.agg [(.int .i64),(.int .i64),(.int .i64),(.int .i64),(.int .i64),(.int .i64),(.int .i64),(.int .i64),(.int .i64),(.int .i64),.bool,(.agg [(.int .i64),(.int .i64),(.int .i64),(.int .i64),(.int .i64),(.int .i64),(.int .i64),.str]),(.list (.int .i64)),(.list (.agg [(.int .i64),(.int .i64),(.int .i64),(.int .i64),.bool])),(.list (.agg [(.int .i64),(.int .i64),(.int .i64),(.int .i64),(.int .i64),(.int .i64),(.int .i64),.str]))],.list (.int .u8),.int .i64,.int .u8,.int .i64] 1048576:=by
 intro ds h hb
 obtain ⟨d0,ds,rfl,h,x0,e0,b0,o0⟩:=eD TU h
 obtain ⟨d1,ds,rfl,h,x1,e1,b1,o1⟩:=eD TU h
 obtain ⟨d2,ds,rfl,h,x2,e2,b2,o2⟩:=eD (arx awT LA rfl) h
 obtain ⟨d3,ds,rfl,h,x3,e3,b3,o3⟩:=eD E_ h
 obtain ⟨d4,ds,rfl,h,x4,e4,b4,o4⟩:=eD awT h
 obtain ⟨d5,ds,rfl,h,x5,e5,b5,o5⟩:=eD E_ h
 obtain rfl:=Y9 h
 simp only [D.Ch] at hb
 have hF:=Hu x0 x1 x2 x3 x4 x5 o0 o1 o2 o3 o4 o5 (by omega)
 have ea:encArgs [.agg [(.int .i64),(.int .i64),(.int .i64),(.int .i64),(.int .i64),(.int .i64),(.int .i64),(.int .i64),(.int .i64),(.int .i64),.bool,(.agg [(.int .i64),(.int .i64),(.int .i64),(.int .i64),(.int .i64),(.int .i64),(.int .i64),.str]),(.list (.int .i64)),(.list (.agg [(.int .i64),(.int .i64),(.int .i64),(.int .i64),.bool])),(.list (.agg [(.int .i64),(.int .i64),(.int .i64),(.int .i64),(.int .i64),(.int .i64),(.int .i64),.str]))],.agg [(.int .i64),(.int .i64),(.int .i64),(.int .i64),(.int .i64),(.int .i64),(.int .i64),(.int .i64),(.int .i64),(.int .i64),.bool,(.agg [(.int .i64),(.int .i64),(.int .i64),(.int .i64),(.int .i64),(.int .i64),(.int .i64),.str]),(.list (.int .i64)),(.list (.agg [(.int .i64),(.int .i64),(.int .i64),(.int .i64),.bool])),(.list (.agg [(.int .i64),(.int .i64),(.int .i64),(.int .i64),(.int .i64),(.int .i64),(.int .i64),.str]))],.list (.int .u8),.int .i64,.int .u8,.int .i64] [d0,d1,d2,d3,d4,d5]=[(.agg (dJ x0)),(.agg (dJ x1)),(kS x2),(.int .i64 x3),(.int .u8 (x4.toNat:Int)),(.int .i64 x5)]:=by
  simp only [encArgs,N8,e0,e1,e2,e3,e4,e5,List.headD_cons]
  try rfl
 have hs:=K7 0 hF
 rw [← ea] at hs
 exact ⟨_,hs⟩
end Go.Proofs.YtohoggieaanllaaGreat.msgTells
