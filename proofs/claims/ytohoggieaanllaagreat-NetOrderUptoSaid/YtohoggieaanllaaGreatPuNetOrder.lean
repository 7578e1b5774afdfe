import Derived.Test.YtohoggieaanllaaGreatJ5
import Derived.Test.YtohoggieaanllaaGreatXrNetOrder
import Derived.Test.YtohoggieaanllaaGreatNd
set_option linter.all false
set_option linter.unusedSimpArgs false
set_option maxRecDepth 20000
namespace Go.Proofs.YtohoggieaanllaaGreat.netOrder
theorem pure:awv (aB aH 16) 5 [.list (.agg [(.int .i64),(.int .i64),(.int .i64),(.int .i64),(.int .i64),(.int .i64),(.int .i64),(.int .i64),(.int .i64),(.int .i64),.bool,(.agg [(.int .i64),(.int .i64),(.int .i64),(.int .i64),(.int .i64),(.int .i64),(.int .i64),.str]),(.list (.int .i64)),(.list (.agg [(.int .i64),(.int .i64),(.int .i64),(.int .i64),.bool])),(.list (.agg [(.int .i64),(.int .i64),(.int .i64),(.int .i64),(.int .i64),(.int .i64),(.int .i64),.str]))]),.int .i64,.int .i64] 1048576:=by
 intro ds h hb
 obtain ⟨d0,ds,rfl,h,x0,e0,b0,o0⟩:=eD (arv adU WE rfl) h
 obtain ⟨d1,ds,rfl,h,x1,e1,b1,o1⟩:=eD EB h
 obtain ⟨d2,ds,rfl,h,x2,e2,b2,o2⟩:=eD EB h
 obtain rfl:=Yn h
 simp only [D.Br] at hb
 have hF:=Gy x0 x1 x2 o0 o1 o2 (by omega)
 have ea:encArgs [.list (.agg [(.int .i64),(.int .i64),(.int .i64),(.int .i64),(.int .i64),(.int .i64),(.int .i64),(.int .i64),(.int .i64),(.int .i64),.bool,(.agg [(.int .i64),(.int .i64),(.int .i64),(.int .i64),(.int .i64),(.int .i64),(.int .i64),.str]),(.list (.int .i64)),(.list (.agg [(.int .i64),(.int .i64),(.int .i64),(.int .i64),.bool])),(.list (.agg [(.int .i64),(.int .i64),(.int .i64),(.int .i64),(.int .i64),(.int .i64),(.int .i64),.str]))]),.int .i64,.int .i64] [d0,d1,d2]=[(CW x0),(.int .i64 x1),(.int .i64 x2)]:=by
  simp only [encArgs,Nr,e0,e1,e2,List.headD_cons]
  try rfl
 have hs:=Kv 0 hF
 rw [← ea] at hs
 exact ⟨_,hs⟩
end Go.Proofs.YtohoggieaanllaaGreat.netOrder
