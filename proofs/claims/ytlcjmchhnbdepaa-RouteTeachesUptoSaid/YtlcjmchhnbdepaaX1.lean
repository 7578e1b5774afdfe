/- The functions' machine code, part 1: literals, each read off the program by the kernel. -/
import Derived.Test.YtlcjmchhnbdepaaJ5
import Derived.Test.YtlcjmchhnbdepaaProg
set_option linter.all false
set_option maxRecDepth 100000
namespace Go.Proofs.Ytlcjmchhnbdepaa
/- osmosis/osmosislaw21.RouteTeaches -/
noncomputable def WF3 : AFunc := { nargs := 4, ntmps := 117, code := codeOf (cFunc Try.prog 3 [[0, 1, 2, 3, 9, 10], [0, 2, 3, 11, 12, 13, 46, 47, 48]]), results := [(.tmp 8)] }
theorem WF3_is : cFunc Try.prog 3 [[0, 1, 2, 3, 9, 10], [0, 2, 3, 11, 12, 13, 46, 47, 48]] = some WF3 := by kernel_rfl
theorem WF3_ok : WF3.code.okc = true := by kernel_rfl
noncomputable def WB3_0 : ACode := (cL (cK (cB (cA (cB (cB WF3.code))))))
theorem WB3_0_ok : WB3_0.okc = true := by kernel_rfl
noncomputable def WJ3_bbabkla : ACode := (cA (cL (cK (cB (cA (cB (cB WF3.code)))))))
theorem WJ3_bbabkla_ok : WJ3_bbabkla.okc = true := by kernel_rfl
noncomputable def WB3_1 : ACode := (cL (cK (cB (cA (cB (cB (cB (cB (cB (cB (cB WF3.code)))))))))))
theorem WB3_1_ok : WB3_1.okc = true := by kernel_rfl

/- osmosis/osmosishand.Pick -/
noncomputable def WF8 : AFunc := { nargs := 2, ntmps := 14, code := codeOf (cFunc Try.prog 8 []), results := [(.tmp 4)] }
theorem WF8_is : cFunc Try.prog 8 [] = some WF8 := by kernel_rfl
theorem WF8_ok : WF8.code.okc = true := by kernel_rfl

/- osmosis/route.Teach -/
noncomputable def WF9 : AFunc := { nargs := 4, ntmps := 41, code := codeOf (cFunc Try.prog 9 [[0, 1, 2, 3, 9, 12, 13, 14]]), results := [(.tmp 8)] }
theorem WF9_is : cFunc Try.prog 9 [[0, 1, 2, 3, 9, 12, 13, 14]] = some WF9 := by kernel_rfl
theorem WF9_ok : WF9.code.okc = true := by kernel_rfl
noncomputable def WB9_0 : ACode := (cL (cK (cB (cA (cB (cB WF9.code))))))
theorem WB9_0_ok : WB9_0.okc = true := by kernel_rfl
noncomputable def WJ9_bbabklbbakba : ACode := (cA (cB (cK (cA (cB (cB (cL (cK (cB (cA (cB (cB WF9.code))))))))))))
theorem WJ9_bbabklbbakba_ok : WJ9_bbabklbbakba.okc = true := by kernel_rfl

/- osmosis/osmosislaw21.known -/
noncomputable def WF10 : AFunc := { nargs := 0, ntmps := 31, code := codeOf (cFunc Try.prog 10 []), results := [(.tmp 0)] }
theorem WF10_is : cFunc Try.prog 10 [] = some WF10 := by kernel_rfl

/- osmosis/store.New -/
noncomputable def WF11 : AFunc := { nargs := 2, ntmps := 56, code := codeOf (cFunc Try.prog 11 [[1, 5, 31, 32, 33]]), results := [(.tmp 4)] }
theorem WF11_is : cFunc Try.prog 11 [[1, 5, 31, 32, 33]] = some WF11 := by kernel_rfl
noncomputable def WB11_0 : ACode := (cL (cK (cB (cA (cB (cB (cB WF11.code)))))))
theorem WB11_0_ok : WB11_0.okc = true := by kernel_rfl

/- (*osmosis/store.Store).Held -/
noncomputable def WF15 : AFunc := { nargs := 2, ntmps := 26, code := codeOf (cFunc Try.prog 15 []), results := [(.cell 4 true 6), (.tmp 5)] }
theorem WF15_is : cFunc Try.prog 15 [] = some WF15 := by kernel_rfl

/- (*osmosis/points.Points).Point -/
noncomputable def WF16 : AFunc := { nargs := 2, ntmps := 25, code := codeOf (cFunc Try.prog 16 []), results := [(.cell 4 true 2), (.tmp 5)] }
theorem WF16_is : cFunc Try.prog 16 [] = some WF16 := by kernel_rfl

/- (*osmosis/points.Points).All -/
noncomputable def WF20 : AFunc := { nargs := 1, ntmps := 9, code := codeOf (cFunc Try.prog 20 []), results := [(.tmp 2)] }
theorem WF20_is : cFunc Try.prog 20 [] = some WF20 := by kernel_rfl

/- osmosis/route.Of -/
noncomputable def WF29 : AFunc := { nargs := 3, ntmps := 81, code := codeOf (cFunc Try.prog 29 []), results := [(.cell 6 true 4)] }
theorem WF29_is : cFunc Try.prog 29 [] = some WF29 := by kernel_rfl

/- slices.Contains[[]int,int] -/
noncomputable def WF30 : AFunc := { nargs := 2, ntmps := 9, code := codeOf (cFunc Try.prog 30 []), results := [(.tmp 4)] }
theorem WF30_is : cFunc Try.prog 30 [] = some WF30 := by kernel_rfl
theorem WF30_ok : WF30.code.okc = true := by kernel_rfl

/- slices.Clip[[]osmosis/api.Msg,osmosis/api.Msg] -/
noncomputable def WF31 : AFunc := { nargs := 1, ntmps := 9, code := codeOf (cFunc Try.prog 31 []), results := [(.tmp 2)] }
theorem WF31_is : cFunc Try.prog 31 [] = some WF31 := by kernel_rfl

/- osmosis/points.New -/
noncomputable def WF32 : AFunc := { nargs := 1, ntmps := 29, code := codeOf (cFunc Try.prog 32 [[1, 2, 3, 13, 14]]), results := [(.cell 2 true 2)] }
theorem WF32_is : cFunc Try.prog 32 [[1, 2, 3, 13, 14]] = some WF32 := by kernel_rfl
noncomputable def WB32_0 : ACode := (cL (cK (cB (cA (cB (cB (cB WF32.code)))))))
theorem WB32_0_ok : WB32_0.okc = true := by kernel_rfl

/- osmosis/osmosisref1.ShardOf -/
noncomputable def WF33 : AFunc := { nargs := 2, ntmps := 14, code := codeOf (cFunc Try.prog 33 []), results := [(.tmp 4)] }
theorem WF33_is : cFunc Try.prog 33 [] = some WF33 := by kernel_rfl

/- osmosis/points.Right -/
noncomputable def WF34 : AFunc := { nargs := 1, ntmps := 21, code := codeOf (cFunc Try.prog 34 []), results := [(.tmp 2)] }
theorem WF34_is : cFunc Try.prog 34 [] = some WF34 := by kernel_rfl

/- osmosis/shard.Of -/
noncomputable def WF35 : AFunc := { nargs := 1, ntmps := 14, code := codeOf (cFunc Try.prog 35 []), results := [(.cell 2 true 19)] }
theorem WF35_is : cFunc Try.prog 35 [] = some WF35 := by kernel_rfl

/- (*osmosis/store.Store).at -/
noncomputable def WF44 : AFunc := { nargs := 2, ntmps := 17, code := codeOf (cFunc Try.prog 44 []), results := [(.tmp 4)] }
theorem WF44_is : cFunc Try.prog 44 [] = some WF44 := by kernel_rfl

/- (*osmosis/shard.Shard).Image -/
noncomputable def WF45 : AFunc := { nargs := 1, ntmps := 20, code := codeOf (cFunc Try.prog 45 []), results := [(.cell 2 true 4)] }
theorem WF45_is : cFunc Try.prog 45 [] = some WF45 := by kernel_rfl

/- slices.Clip[[]osmosis/api.Point,osmosis/api.Point] -/
noncomputable def WF47 : AFunc := { nargs := 1, ntmps := 9, code := codeOf (cFunc Try.prog 47 []), results := [(.tmp 2)] }
theorem WF47_is : cFunc Try.prog 47 [] = some WF47 := by kernel_rfl

/- slices.Clone[[]osmosis/api.Point,osmosis/api.Point] -/
noncomputable def WF48 : AFunc := { nargs := 1, ntmps := 8, code := codeOf (cFunc Try.prog 48 []), results := [(.tmp 2)] }
theorem WF48_is : cFunc Try.prog 48 [] = some WF48 := by kernel_rfl

/- (*osmosis/store.Store).Me -/
noncomputable def WF60 : AFunc := { nargs := 1, ntmps := 7, code := codeOf (cFunc Try.prog 60 []), results := [(.tmp 2)] }
theorem WF60_is : cFunc Try.prog 60 [] = some WF60 := by kernel_rfl

/- osmosis/table.Right -/
noncomputable def WF64 : AFunc := { nargs := 1, ntmps := 53, code := codeOf (cFunc Try.prog 64 []), results := [(.tmp 2)] }
theorem WF64_is : cFunc Try.prog 64 [] = some WF64 := by kernel_rfl

/- osmosis/hash.Shard -/
noncomputable def WF65 : AFunc := { nargs := 2, ntmps := 14, code := codeOf (cFunc Try.prog 65 []), results := [(.tmp 4)] }
theorem WF65_is : cFunc Try.prog 65 [] = some WF65 := by kernel_rfl

/- slices.Index[[]int,int] -/
noncomputable def WF66 : AFunc := { nargs := 2, ntmps := 19, code := codeOf (cFunc Try.prog 66 [[0, 1, 7, 8]]), results := [(.tmp 4)] }
theorem WF66_is : cFunc Try.prog 66 [[0, 1, 7, 8]] = some WF66 := by kernel_rfl
theorem WF66_ok : WF66.code.okc = true := by kernel_rfl
noncomputable def WB66_0 : ACode := (cL (cK (cB (cA (cB WF66.code)))))
theorem WB66_0_ok : WB66_0.okc = true := by kernel_rfl

/- osmosis/osmosisref1.Sum -/
noncomputable def WF67 : AFunc := { nargs := 1, ntmps := 33, code := codeOf (cFunc Try.prog 67 [[0, 3, 4], [0, 3, 4, 5]]), results := [(.tmp 2)] }
theorem WF67_is : cFunc Try.prog 67 [[0, 3, 4], [0, 3, 4, 5]] = some WF67 := by kernel_rfl
noncomputable def WB67_0 : ACode := (cL (cK (cB (cA (cB (cB WF67.code))))))
theorem WB67_0_ok : WB67_0.okc = true := by kernel_rfl
noncomputable def WB67_1 : ACode := (cL (cK (cB (cA (cK (cA (cB (cL (cK (cB (cA (cB (cB WF67.code)))))))))))))
theorem WB67_1_ok : WB67_1.okc = true := by kernel_rfl

/- osmosis/table.Of -/
noncomputable def WF68 : AFunc := { nargs := 1, ntmps := 20, code := codeOf (cFunc Try.prog 68 [[2, 3, 6, 7, 8]]), results := [(.cell 2 true 1)] }
theorem WF68_is : cFunc Try.prog 68 [[2, 3, 6, 7, 8]] = some WF68 := by kernel_rfl
noncomputable def WB68_0 : ACode := (cL (cK (cB (cA (cB (cB WF68.code))))))
theorem WB68_0_ok : WB68_0.okc = true := by kernel_rfl

/- osmosis/session.OfAll -/
noncomputable def WF69 : AFunc := { nargs := 1, ntmps := 16, code := codeOf (cFunc Try.prog 69 [[2, 3, 6, 7, 8]]), results := [(.cell 2 true 16)] }
theorem WF69_is : cFunc Try.prog 69 [[2, 3, 6, 7, 8]] = some WF69 := by kernel_rfl
noncomputable def WB69_0 : ACode := (cL (cK (cB (cA (cB (cB WF69.code))))))
theorem WB69_0_ok : WB69_0.okc = true := by kernel_rfl

/- (*osmosis/table.Table).Pairs -/
noncomputable def WF76 : AFunc := { nargs := 1, ntmps := 9, code := codeOf (cFunc Try.prog 76 []), results := [(.tmp 2)] }
theorem WF76_is : cFunc Try.prog 76 [] = some WF76 := by kernel_rfl

/- (*osmosis/session.Sessions).All -/
noncomputable def WF77 : AFunc := { nargs := 1, ntmps := 23, code := codeOf (cFunc Try.prog 77 [[3, 9, 10]]), results := [(.tmp 2)] }
theorem WF77_is : cFunc Try.prog 77 [[3, 9, 10]] = some WF77 := by kernel_rfl
noncomputable def WB77_0 : ACode := (cL (cK (cB (cA (cB (cB WF77.code))))))
theorem WB77_0_ok : WB77_0.okc = true := by kernel_rfl

/- osmosis/hash.Sum -/
noncomputable def WF86 : AFunc := { nargs := 1, ntmps := 32, code := codeOf (cFunc Try.prog 86 [[3, 8, 9, 10], [3, 8, 9, 10, 15, 16, 17]]), results := [(.tmp 2)] }
theorem WF86_is : cFunc Try.prog 86 [[3, 8, 9, 10], [3, 8, 9, 10, 15, 16, 17]] = some WF86 := by kernel_rfl
noncomputable def WB86_0 : ACode := (cL (cK (cB (cA (cB (cB WF86.code))))))
theorem WB86_0_ok : WB86_0.okc = true := by kernel_rfl
noncomputable def WB86_1 : ACode := (cL (cK (cB (cA (cB (cK (cA (cB (cB (cL (cK (cB (cA (cB (cB WF86.code)))))))))))))))
theorem WB86_1_ok : WB86_1.okc = true := by kernel_rfl

/- osmosis/osmosisref1.step -/
noncomputable def WF87 : AFunc := { nargs := 2, ntmps := 9, code := codeOf (cFunc Try.prog 87 []), results := [(.tmp 4)] }
theorem WF87_is : cFunc Try.prog 87 [] = some WF87 := by kernel_rfl

/- (*osmosis/table.Table).Do -/
noncomputable def WF88 : AFunc := { nargs := 2, ntmps := 65, code := codeOf (cFunc Try.prog 88 []), results := [(.cell 4 true 2)] }
theorem WF88_is : cFunc Try.prog 88 [] = some WF88 := by kernel_rfl

/- (*osmosis/session.Sessions).Note -/
noncomputable def WF89 : AFunc := { nargs := 2, ntmps := 38, code := codeOf (cFunc Try.prog 89 []), results := [(.tmp 4)] }
theorem WF89_is : cFunc Try.prog 89 [] = some WF89 := by kernel_rfl

/- slices.Clip[[]osmosis/api.Pair,osmosis/api.Pair] -/
noncomputable def WF96 : AFunc := { nargs := 1, ntmps := 9, code := codeOf (cFunc Try.prog 96 []), results := [(.tmp 2)] }
theorem WF96_is : cFunc Try.prog 96 [] = some WF96 := by kernel_rfl

/- slices.Clone[[]osmosis/api.Pair,osmosis/api.Pair] -/
noncomputable def WF97 : AFunc := { nargs := 1, ntmps := 8, code := codeOf (cFunc Try.prog 97 []), results := [(.tmp 2)] }
theorem WF97_is : cFunc Try.prog 97 [] = some WF97 := by kernel_rfl

/- slices.Clip[[]osmosis/api.Sess,osmosis/api.Sess] -/
noncomputable def WF98 : AFunc := { nargs := 1, ntmps := 9, code := codeOf (cFunc Try.prog 98 []), results := [(.tmp 2)] }
theorem WF98_is : cFunc Try.prog 98 [] = some WF98 := by kernel_rfl

/- (*osmosis/table.Table).find -/
noncomputable def WF101 : AFunc := { nargs := 2, ntmps := 14, code := codeOf (cFunc Try.prog 101 []), results := [(.tmp 4), (.tmp 5)] }
theorem WF101_is : cFunc Try.prog 101 [] = some WF101 := by kernel_rfl

/- (*osmosis/table.Table).put -/
noncomputable def WF102 : AFunc := { nargs := 4, ntmps := 41, code := codeOf (cFunc Try.prog 102 []), results := [(.cell 8 true 2)] }
theorem WF102_is : cFunc Try.prog 102 [] = some WF102 := by kernel_rfl

/- (*osmosis/table.Table).cas -/
noncomputable def WF103 : AFunc := { nargs := 3, ntmps := 28, code := codeOf (cFunc Try.prog 103 []), results := [(.cell 6 true 2)] }
theorem WF103_is : cFunc Try.prog 103 [] = some WF103 := by kernel_rfl

/- slices.Delete[[]osmosis/api.Pair,osmosis/api.Pair] -/
noncomputable def WF104 : AFunc := { nargs := 3, ntmps := 33, code := codeOf (cFunc Try.prog 104 []), results := [(.tmp 6)] }
theorem WF104_is : cFunc Try.prog 104 [] = some WF104 := by kernel_rfl

/- slices.BinarySearchFunc[[]osmosis/api.Pair,osmosis/api.Pair,string] -/
noncomputable def WF106 : AFunc := { nargs := 3, ntmps := 49, code := codeOf (cFunc Try.prog 106 [[0, 1, 2, 8, 9, 10]]), results := [(.tmp 6), (.tmp 7)] }
theorem WF106_is : cFunc Try.prog 106 [[0, 1, 2, 8, 9, 10]] = some WF106 := by kernel_rfl
noncomputable def WB106_0 : ACode := (cL (cK (cA (cB (cB (cB WF106.code))))))
theorem WB106_0_ok : WB106_0.okc = true := by kernel_rfl

/- (*osmosis/table.Table).find$1 -/
noncomputable def WF107 : AFunc := { nargs := 2, ntmps := 9, code := codeOf (cFunc Try.prog 107 []), results := [(.tmp 4)] }
theorem WF107_is : cFunc Try.prog 107 [] = some WF107 := by kernel_rfl

/- cmp.Compare[string] -/
noncomputable def WF108 : AFunc := { nargs := 2, ntmps := 20, code := codeOf (cFunc Try.prog 108 []), results := [(.tmp 4)] }
theorem WF108_is : cFunc Try.prog 108 [] = some WF108 := by kernel_rfl

/- (*osmosis/table.Table).set -/
noncomputable def WF109 : AFunc := { nargs := 3, ntmps := 22, code := codeOf (cFunc Try.prog 109 []), results := [] }
theorem WF109_is : cFunc Try.prog 109 [] = some WF109 := by kernel_rfl

/- slices.Insert[[]osmosis/api.Pair,osmosis/api.Pair] -/
noncomputable def WF110 : AFunc := { nargs := 3, ntmps := 95, code := codeOf (cFunc Try.prog 110 []), results := [(.tmp 6)] }
theorem WF110_is : cFunc Try.prog 110 [] = some WF110 := by kernel_rfl

/- cmp.isNaN[string] -/
noncomputable def WF111 : AFunc := { nargs := 1, ntmps := 6, code := codeOf (cFunc Try.prog 111 []), results := [(.tmp 2)] }
theorem WF111_is : cFunc Try.prog 111 [] = some WF111 := by kernel_rfl

/- slices.rotateRight[osmosis/api.Pair] -/
noncomputable def WF113 : AFunc := { nargs := 2, ntmps := 10, code := codeOf (cFunc Try.prog 113 []), results := [] }
theorem WF113_is : cFunc Try.prog 113 [] = some WF113 := by kernel_rfl

/- slices.rotateLeft[osmosis/api.Pair] -/
noncomputable def WF114 : AFunc := { nargs := 2, ntmps := 14, code := codeOf (cFunc Try.prog 114 []), results := [] }
theorem WF114_is : cFunc Try.prog 114 [] = some WF114 := by kernel_rfl

/- slices.Reverse[[]osmosis/api.Pair,osmosis/api.Pair] -/
noncomputable def WF115 : AFunc := { nargs := 1, ntmps := 28, code := codeOf (cFunc Try.prog 115 [[0, 2, 3]]), results := [] }
theorem WF115_is : cFunc Try.prog 115 [[0, 2, 3]] = some WF115 := by kernel_rfl
noncomputable def WB115_0 : ACode := (cL (cK (cB WF115.code)))
theorem WB115_0_ok : WB115_0.okc = true := by kernel_rfl

end Go.Proofs.Ytlcjmchhnbdepaa
