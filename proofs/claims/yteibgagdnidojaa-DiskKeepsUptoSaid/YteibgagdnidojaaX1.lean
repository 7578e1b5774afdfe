/- The functions' machine code, part 1: literals, each read off the program by the kernel. -/
import Derived.Test.YteibgagdnidojaaJ5
import Derived.Test.YteibgagdnidojaaProg
set_option linter.all false
set_option maxRecDepth 100000
namespace Go.Proofs.Yteibgagdnidojaa
/- osmosis/osmosislaw4.DiskKeeps -/
def WJ16_bba : ACode := (.seq (.reg [oN 18 (.call (.c (.func 53 [])) []), oP 19 (.un .not (.t 18)), oV 20 19, oG 20 false (oV 21 7), oG 20 false (oP 22 (.eqP false (.t 21) (.c (.ptr none)))), oP 23 (.pick (.t 20) (.c (.bool true)) (.t 22))]) (.cond (.t 23) (.seq (.reg [oC 6 (.bool false)]) .ret) .skip))
theorem WJ16_bba_ok : WJ16_bba.okc = true := by kernel_rfl
def WB16_0 : ACode := (.seq (.reg [oP 28 (.bin .lss (.t 27) (.t 26))]) (.seq (.cond (.t 28) .skip (.exit 0)) (.seq (.block 1 (.seq (.reg [oP 29 (.idxSlice 1 (.t 25) (.t 27)), oL 30 (.load false 1 (.t 29)), oV 10 30]) (.seq (.reg [oV 31 7, oV 32 10, oK 33 (.buildSlice 1 1 [(.slice none 1 0 0 true)] [(0, (.t 32))]), oN 34 (.call (.c (.func 55 [])) [(.t 31), (.t 33)])]) (.reg [oV 35 8, oV 36 10, oL 37 (.bytesStr (.t 36)), oP 38 (.bin .add (.t 35) (.t 37)), oV 8 38])))) (.reg [oP 39 (.bin .add (.t 27) (iC 1)), oV 27 39]))))
theorem WB16_0_ok : WB16_0.okc = true := by kernel_rfl
def WB16_2 : ACode := (.seq (.reg [oP 52 (.bin .lss (.t 51) (.t 50))]) (.seq (.cond (.t 52) .skip (.exit 4)) (.seq (.block 5 (.seq (.reg [oP 53 (.idxSlice 1 (.t 49) (.t 51)), oL 54 (.load false 1 (.t 53)), oV 15 54]) (.seq (.reg [oV 55 7, oV 56 15, oK 57 (.buildSlice 1 1 [(.slice none 1 0 0 true)] [(0, (.t 56))]), oN 58 (.call (.c (.func 55 [])) [(.t 55), (.t 57)])]) (.reg [oV 59 13, oV 60 15, oL 61 (.bytesStr (.t 60)), oP 62 (.bin .add (.t 59) (.t 61)), oV 13 62])))) (.reg [oP 63 (.bin .add (.t 51) (iC 1)), oV 51 63]))))
theorem WB16_2_ok : WB16_2.okc = true := by kernel_rfl
def WJ16_bbbbbbabklbbakbbba : ACode := (.seq (.reg [oV 64 7, oN 65 (.call (.c (.func 57 [])) [(.t 64)]), oV 66 8, oP 67 (.len true (.t 66)), oV 68 13, oP 69 (.len true (.t 68)), oP 70 (.bin .add (.t 67) (.t 69)), oP 71 (.bin .neq (.t 65) (.t 70)), oV 72 71, oG 72 false (oV 73 7), oG 72 false (oN 74 (.call (.c (.func 58 [])) [(.t 73)])), oG 72 false (oV 75 8), oG 72 false (oP 76 (.len true (.t 75))), oG 72 false (oP 77 (.bin .neq (.t 74) (.t 76))), oP 78 (.pick (.t 72) (.c (.bool true)) (.t 77))]) (.cond (.t 78) (.seq (.reg [oC 6 (.bool false)]) .ret) .skip))
theorem WJ16_bbbbbbabklbbakbbba_ok : WJ16_bbbbbbabklbbakbbba.okc = true := by kernel_rfl
def WJ16_bbbbbbabklbbakbbbbbbba : ACode := (.reg [oV 104 7, oN 105 (.call (.c (.func 60 [])) [(.t 104)]), oL 106 (.bytesStr (.t 105)), oV 107 8, oP 108 (.bin .neq (.t 106) (.t 107)), oV 109 108, oG 109 false (oV 110 7), oG 109 false (oN 111 (.call (.c (.func 58 [])) [(.t 110)])), oG 109 false (oV 112 8), oG 109 false (oP 113 (.len true (.t 112))), oG 109 false (oP 114 (.bin .neq (.t 111) (.t 113))), oP 115 (.pick (.t 109) (.c (.bool true)) (.t 114)), oV 116 115, oG 116 false (oV 117 8), oG 116 false (oP 118 (.len true (.t 117))), oG 116 false (oP 119 (.bin .gtr (.t 118) (iC 30000))), oP 120 (.pick (.t 116) (.c (.bool true)) (.t 119))])
theorem WJ16_bbbbbbabklbbakbbbbbbba_ok : WJ16_bbbbbbabklbbakbbbbbbba.okc = true := by kernel_rfl
def WB16_1 : ACode := (.seq (.reg [oP 45 (.bin .lss (.t 44) (.t 43))]) (.seq (.cond (.t 45) .skip (.exit 2)) (.seq (.block 3 (.seq (.reg [oP 46 (.idxSlice 1 (.t 42) (.t 44)), oL 47 (.load false 1 (.t 46)), oV 12 47]) (.seq (.reg [oC 13 (.str [])]) (.seq (.seq (.reg [oV 48 1, oN 49 (.call (.c (.func 54 [])) [(.t 48)]), oP 50 (.len false (.t 49)), oC 51 (.int .i64 0)]) (.block 4 (.loop [1, 7, 8, 12, 13, 42, 43, 44, 49, 50, 51] WB16_2))) (.seq WJ16_bbbbbbabklbbakbbba (.seq (.reg [oV 79 12, oV 80 13, oP 81 (.len true (.t 80)), oP 82 (.bin .add (.t 81) (iC 9)), oN 83 (.call (.c (.func 26 [])) [(.t 79), (.t 82)]), oP 84 (.bin .sub (.t 83) (iC 3)), oV 85 13, oP 86 (.len true (.t 85)), oP 87 (.minmax false [(.t 84), (.t 86)]), oP 88 (.minmax true [(iC 0), (.t 87)]), oV 16 88]) (.seq (.seq (.reg [oV 89 7, oV 90 12, oV 91 13, oP 92 (.len true (.t 91)), oP 93 (.bin .add (.t 92) (iC 9)), oN 94 (.call (.c (.func 26 [])) [(.t 90), (.t 93)]), oP 95 (.bin .sub (.t 94) (iC 3)), oN 96 (.call (.c (.func 59 [])) [(.t 89), (.t 95)]), oV 97 16, oP 98 (.bin .neq (.t 96) (.t 97))]) (.cond (.t 98) (.seq (.reg [oC 6 (.bool false)]) .ret) .skip)) (.seq (.reg [oV 99 8, oV 100 13, oV 101 16, oP 102 (.sliceStr (.t 100) none (some (.t 101))), oP 103 (.bin .add (.t 99) (.t 102)), oV 8 103]) (.seq WJ16_bbbbbbabklbbakbbbbbbba (.cond (.t 120) (.seq (.reg [oV 121 8, oP 122 (.len true (.t 121)), oP 123 (.bin .gtr (.t 122) (iC 30000)), oV 6 123]) .ret) .skip)))))))))) (.reg [oP 124 (.bin .add (.t 44) (iC 1)), oV 44 124]))))
theorem WB16_1_ok : WB16_1.okc = true := by kernel_rfl
def WF16 : AFunc := { nargs := 3, ntmps := 125, code := (.seq (.reg [oC 6 (.bool false)]) (.seq (.reg [oN 17 (.call (.c (.func 52 [])) []), oV 7 17]) (.seq WJ16_bba (.seq (.reg [oC 8 (.str [])]) (.seq (.seq (.reg [oV 24 0, oN 25 (.call (.c (.func 54 [])) [(.t 24)]), oP 26 (.len false (.t 25)), oC 27 (.int .i64 0)]) (.block 0 (.loop [1, 2, 7, 8, 25, 26, 27] WB16_0))) (.seq (.reg [oV 40 7, oN 41 (.call (.c (.func 56 [])) [(.t 40)])]) (.seq (.seq (.reg [oV 42 2, oP 43 (.len false (.t 42)), oC 44 (.int .i64 0)]) (.block 2 (.loop [1, 7, 8, 42, 43, 44] WB16_1))) (.seq (.reg [oC 6 (.bool true)]) .ret)))))))), results := [(.tmp 6)] }
theorem WF16_is : cFunc Try.prog 16 [[1, 2, 7, 8, 25, 26, 27], [1, 7, 8, 42, 43, 44], [1, 7, 8, 12, 13, 42, 43, 44, 49, 50, 51]] = some WF16 := by kernel_rfl
theorem WF16_ok : WF16.code.okc = true := by kernel_rfl

/- osmosis/osmosishand.Pick -/
def WF26 : AFunc := { nargs := 2, ntmps := 14, code := (.seq (.reg [oC 4 (.int .i64 0)]) (.seq (.reg [oV 5 0, oV 6 1, oP 7 (.bin .rem (.t 5) (.t 6)), oV 0 7]) (.seq (.seq (.reg [oV 8 0, oP 9 (.bin .lss (.t 8) (iC 0))]) (.cond (.t 9) (.reg [oV 10 0, oV 11 1, oP 12 (.bin .add (.t 10) (.t 11)), oV 0 12]) .skip)) (.seq (.reg [oV 13 0, oV 4 13]) .ret)))), results := [(.tmp 4)] }
theorem WF26_is : cFunc Try.prog 26 [] = some WF26 := by kernel_rfl
theorem WF26_ok : WF26.code.okc = true := by kernel_rfl

/- osmosis/disk.New -/
def WF52 : AFunc := { nargs := 0, ntmps := 3, code := (.seq (.reg [oC 0 (.ptr none)]) (.seq (.reg [oP 1 (.build [(.slice none 1 0 0 true), (.int .i64 0)] []), oK 2 (.box (.t 1)), oV 0 2]) .ret)), results := [(.tmp 0)] }
theorem WF52_is : cFunc Try.prog 52 [] = some WF52 := by kernel_rfl
theorem WF52_ok : WF52.code.okc = true := by kernel_rfl

/- osmosis/osmosislaw4.known -/
def WF53 : AFunc := { nargs := 0, ntmps := 38, code := (.seq (.reg [oC 0 (.bool false)]) (.seq (.reg [oN 4 (.call (.c (.func 52 [])) []), oV 1 4]) (.seq (.seq (.reg [oV 5 1, oP 6 (.eqP false (.t 5) (.c (.ptr none)))]) (.cond (.t 6) (.seq (.reg [oC 0 (.bool false)]) .ret) .skip)) (.seq (.reg [oV 7 1, oK 8 (.buildSlice 1 2 [(.int .u8 0)] [(0, (.c (.int .u8 97))), (1, (.c (.int .u8 98)))]), oN 9 (.cvBytes (.t 8)), oK 10 (.buildSlice 1 1 [(.slice none 1 0 0 true)] [(0, (.t 9))]), oN 11 (.call (.c (.func 55 [])) [(.t 7), (.t 10)])]) (.seq (.reg [oV 12 1, oN 13 (.call (.c (.func 56 [])) [(.t 12)]), oV 2 13]) (.seq (.reg [oV 14 1, oK 15 (.buildSlice 1 2 [(.int .u8 0)] [(0, (.c (.int .u8 99))), (1, (.c (.int .u8 100)))]), oN 16 (.cvBytes (.t 15)), oK 17 (.buildSlice 1 1 [(.slice none 1 0 0 true)] [(0, (.t 16))]), oN 18 (.call (.c (.func 55 [])) [(.t 14), (.t 17)])]) (.seq (.reg [oV 19 1, oN 20 (.call (.c (.func 59 [])) [(.t 19), (iC 1)]), oV 3 20]) (.seq (.reg [oV 21 2, oP 22 (.bin .eql (.t 21) (iC 2)), oV 23 22, oG 23 true (oV 24 3), oG 23 true (oP 25 (.bin .eql (.t 24) (iC 1))), oP 26 (.pick (.t 23) (.t 25) (.c (.bool false))), oV 27 26, oG 27 true (oV 28 1), oG 27 true (oN 29 (.call (.c (.func 60 [])) [(.t 28)])), oG 27 true (oL 30 (.bytesStr (.t 29))), oG 27 true (oP 31 (.bin .eql (.t 30) (.c (.str [97, 98, 99])))), oP 32 (.pick (.t 27) (.t 31) (.c (.bool false))), oV 33 32, oG 33 true (oV 34 1), oG 33 true (oN 35 (.call (.c (.func 58 [])) [(.t 34)])), oG 33 true (oP 36 (.bin .eql (.t 35) (iC 3))), oP 37 (.pick (.t 33) (.t 36) (.c (.bool false))), oV 0 37]) .ret)))))))), results := [(.tmp 0)] }
theorem WF53_is : cFunc Try.prog 53 [] = some WF53 := by kernel_rfl
theorem WF53_ok : WF53.code.okc = true := by kernel_rfl

/- osmosis/osmosislaw4.some -/
def WJ54_bbabkla : ACode := (.seq (.reg [oV 5 4, oV 6 0, oP 7 (.len false (.t 6)), oP 8 (.bin .lss (.t 5) (.t 7)), oV 9 8, oG 9 true (oV 10 4), oG 9 true (oP 11 (.bin .lss (.t 10) (iC 6))), oP 12 (.pick (.t 9) (.t 11) (.c (.bool false)))]) (.cond (.t 12) .skip (.exit 0)))
theorem WJ54_bbabkla_ok : WJ54_bbabkla.okc = true := by kernel_rfl
def WB54_0 : ACode := (.seq WJ54_bbabkla (.seq (.block 1 (.reg [oV 15 3, oV 16 0, oV 17 4, oP 18 (.idxSlice 1 (.t 16) (.t 17)), oL 19 (.load false 1 (.t 18)), oN 20 (.call (.c (.func 81 [])) [(.t 19), (iC 60)]), oK 21 (.buildSlice 1 1 [(.slice none 1 0 0 true)] [(0, (.t 20))]), oN 22 (.append 1 24 (.t 15) (.t 21)), oV 3 22])) (.reg [oV 13 4, oP 14 (.bin .add (.t 13) (iC 1)), oV 4 14])))
theorem WB54_0_ok : WB54_0.okc = true := by kernel_rfl
def WF54 : AFunc := { nargs := 1, ntmps := 24, code := (.seq (.reg [oC 2 (.slice none 1 0 0 true)]) (.seq (.reg [oC 3 (.slice none 1 0 0 true)]) (.seq (.seq (.reg [oC 4 (.int .i64 0)]) (.block 0 (.loop [0, 3, 4] WB54_0))) (.seq (.reg [oV 23 3, oV 2 23]) .ret)))), results := [(.tmp 2)] }
theorem WF54_is : cFunc Try.prog 54 [[0, 3, 4]] = some WF54 := by kernel_rfl
theorem WF54_ok : WF54.code.okc = true := by kernel_rfl

/- (*osmosis/disk.Disk).Append -/
def WF55 : AFunc := { nargs := 2, ntmps := 26, code := (.seq (.reg [oC 4 (.bool false)]) (.seq (.reg [oV 6 1, oN 7 (.call (.c (.func 82 [])) [(.t 6)]), oV 5 7]) (.seq (.seq (.reg [oV 8 0, oP 9 (.nilCheck (.t 8)), oP 10 (.fieldAddr 0 (.t 9)), oL 11 (.load false 1 (.t 10)), oP 12 (.len false (.t 11)), oV 13 5, oP 14 (.len false (.t 13)), oP 15 (.bin .add (.t 12) (.t 14)), oP 16 (.bin .gtr (.t 15) (iC 65536))]) (.cond (.t 16) (.seq (.reg [oC 4 (.bool false)]) .ret) .skip)) (.seq (.reg [oV 17 0, oV 18 0, oP 19 (.nilCheck (.t 18)), oP 20 (.fieldAddr 0 (.t 19)), oL 21 (.load false 1 (.t 20)), oV 22 5, oN 23 (.append 1 1 (.t 21) (.t 22)), oP 24 (.nilCheck (.t 17)), oP 25 (.fieldAddr 0 (.t 24)), oZ (.store 1 (.t 25) (.t 23))]) (.seq (.reg [oC 4 (.bool true)]) .ret))))), results := [(.tmp 4)] }
theorem WF55_is : cFunc Try.prog 55 [] = some WF55 := by kernel_rfl
theorem WF55_ok : WF55.code.okc = true := by kernel_rfl

/- (*osmosis/disk.Disk).Sync -/
def WF56 : AFunc := { nargs := 1, ntmps := 23, code := (.seq (.reg [oC 2 (.int .i64 0)]) (.seq (.dreg 0 [oD (oV 4 0) 0 0, oD (oP 5 (.nilCheck (.t 4))) 0 0, oD (oP 6 (.fieldAddr 0 (.t 5))) 0 0, oD (oL 7 (.load false 1 (.t 6))) 0 0, oD (oP 8 (.len false (.t 7))) 0 0, oD (oV 9 0) 0 0, oD (oP 10 (.nilCheck (.t 9))) 0 0, oD (oP 11 (.fieldAddr 1 (.t 10))) 0 0, oD (oL 12 (.load false 1 (.t 11))) 0 0, oD (oP 13 (.bin .sub (.t 8) (.t 12))) 0 0, oD (oV 3 13) 0 0]) (.seq (.reg [oV 14 0, oV 15 0, oP 16 (.nilCheck (.t 15)), oP 17 (.fieldAddr 0 (.t 16)), oL 18 (.load false 1 (.t 17)), oP 19 (.len false (.t 18)), oP 20 (.nilCheck (.t 14)), oP 21 (.fieldAddr 1 (.t 20)), oZ (.store 1 (.t 21) (.t 19))]) (.seq (.reg [oV 22 3, oV 2 22]) .ret)))), results := [(.tmp 2)] }
theorem WF56_is : cFunc Try.prog 56 [] = some WF56 := by kernel_rfl
theorem WF56_ok : WF56.code.okc = true := by kernel_rfl

/- (*osmosis/disk.Disk).Size -/
def WF57 : AFunc := { nargs := 1, ntmps := 8, code := (.seq (.reg [oC 2 (.int .i64 0)]) (.seq (.reg [oV 3 0, oP 4 (.nilCheck (.t 3)), oP 5 (.fieldAddr 0 (.t 4)), oL 6 (.load false 1 (.t 5)), oP 7 (.len false (.t 6)), oV 2 7]) .ret)), results := [(.tmp 2)] }
theorem WF57_is : cFunc Try.prog 57 [] = some WF57 := by kernel_rfl
theorem WF57_ok : WF57.code.okc = true := by kernel_rfl

/- (*osmosis/disk.Disk).Synced -/
def WF58 : AFunc := { nargs := 1, ntmps := 7, code := (.seq (.reg [oC 2 (.int .i64 0)]) (.seq (.reg [oV 3 0, oP 4 (.nilCheck (.t 3)), oP 5 (.fieldAddr 1 (.t 4)), oL 6 (.load false 1 (.t 5)), oV 2 6]) .ret)), results := [(.tmp 2)] }
theorem WF58_is : cFunc Try.prog 58 [] = some WF58 := by kernel_rfl
theorem WF58_ok : WF58.code.okc = true := by kernel_rfl

/- (*osmosis/disk.Disk).Crash -/
def WF59 : AFunc := { nargs := 2, ntmps := 39, code := (.seq (.reg [oC 4 (.int .i64 0)]) (.seq (.dreg 0 [oD (oV 5 1) 0 0, oD (oV 6 0) 0 0, oD (oP 7 (.nilCheck (.t 6))) 0 0, oD (oP 8 (.fieldAddr 0 (.t 7))) 0 0, oD (oL 9 (.load false 1 (.t 8))) 0 0, oD (oP 10 (.len false (.t 9))) 0 0, oD (oV 11 0) 0 0, oD (oP 12 (.nilCheck (.t 11))) 0 0, oD (oP 13 (.fieldAddr 1 (.t 12))) 0 0, oD (oL 14 (.load false 1 (.t 13))) 0 0, oD (oP 15 (.bin .sub (.t 10) (.t 14))) 0 0, oD (oP 16 (.minmax false [(.t 5), (.t 15)])) 0 0, oD (oP 17 (.minmax true [(iC 0), (.t 16)])) 0 0, oD (oV 1 17) 0 0]) (.seq (.reg [oV 18 0, oP 19 (.nilCheck (.t 18)), oP 20 (.fieldAddr 1 (.t 19)), oL 21 (.load false 1 (.t 20)), oV 22 1, oP 23 (.bin .add (.t 21) (.t 22)), oP 24 (.nilCheck (.t 18)), oP 25 (.fieldAddr 1 (.t 24)), oZ (.store 1 (.t 25) (.t 23))]) (.seq (.dreg 0 [oD (oV 26 0) 0 0, oD (oV 27 0) 0 0, oD (oP 28 (.nilCheck (.t 27))) 0 0, oD (oP 29 (.fieldAddr 0 (.t 28))) 0 0, oD (oL 30 (.load false 1 (.t 29))) 0 0, oD (oV 31 0) 0 0, oD (oP 32 (.nilCheck (.t 31))) 0 0, oD (oP 33 (.fieldAddr 1 (.t 32))) 0 0, oD (oL 34 (.load false 1 (.t 33))) 0 0, oD (oP 35 (.slice 1 (.t 30) none (some (.t 34)) none)) 0 0, oD (oP 36 (.nilCheck (.t 26))) 0 0, oD (oP 37 (.fieldAddr 0 (.t 36))) 0 0, oD (oZ (.store 1 (.t 37) (.t 35))) 0 0]) (.seq (.reg [oV 38 1, oV 4 38]) .ret))))), results := [(.tmp 4)] }
theorem WF59_is : cFunc Try.prog 59 [] = some WF59 := by kernel_rfl
theorem WF59_ok : WF59.code.okc = true := by kernel_rfl

/- (*osmosis/disk.Disk).Bytes -/
def WF60 : AFunc := { nargs := 1, ntmps := 9, code := (.seq (.reg [oC 2 (.slice none 1 0 0 true)]) (.seq (.reg [oV 3 0, oP 4 (.nilCheck (.t 3)), oP 5 (.fieldAddr 0 (.t 4)), oL 6 (.load false 1 (.t 5)), oN 7 (.call (.c (.func 79 [])) [(.t 6)]), oN 8 (.call (.c (.func 80 [])) [(.t 7)]), oV 2 8]) .ret)), results := [(.tmp 2)] }
theorem WF60_is : cFunc Try.prog 60 [] = some WF60 := by kernel_rfl
theorem WF60_ok : WF60.code.okc = true := by kernel_rfl

/- slices.Clone[[]byte,byte] -/
def WF79 : AFunc := { nargs := 1, ntmps := 8, code := (.seq (.reg [oC 2 (.slice none 1 0 0 true)]) (.seq (.seq (.reg [oV 3 0, oP 4 (.eqN false (.t 3) (.c (.slice none 1 0 0 true)))]) (.cond (.t 4) (.seq (.reg [oC 2 (.slice none 1 0 0 true)]) .ret) .skip)) (.seq (.reg [oK 5 (.buildSlice 1 0 [(.int .u8 0)] []), oV 6 0, oN 7 (.append 1 1 (.t 5) (.t 6)), oV 2 7]) .ret))), results := [(.tmp 2)] }
theorem WF79_is : cFunc Try.prog 79 [] = some WF79 := by kernel_rfl
theorem WF79_ok : WF79.code.okc = true := by kernel_rfl

/- slices.Clip[[]byte,byte] -/
def WF80 : AFunc := { nargs := 1, ntmps := 9, code := (.seq (.reg [oC 2 (.slice none 1 0 0 true)]) (.seq (.reg [oV 3 0, oV 4 0, oP 5 (.len false (.t 4)), oV 6 0, oP 7 (.len false (.t 6)), oP 8 (.slice 1 (.t 3) none (some (.t 5)) (some (.t 7))), oV 2 8]) .ret)), results := [(.tmp 2)] }
theorem WF80_is : cFunc Try.prog 80 [] = some WF80 := by kernel_rfl
theorem WF80_ok : WF80.code.okc = true := by kernel_rfl

/- osmosis/osmosishand.Few -/
def WF81 : AFunc := { nargs := 2, ntmps := 15, code := (.seq (.reg [oC 4 (.slice none 1 0 0 true)]) (.seq (.seq (.reg [oV 5 0, oP 6 (.len false (.t 5)), oV 7 1, oP 8 (.bin .gtr (.t 6) (.t 7))]) (.cond (.t 8) (.reg [oV 9 0, oV 10 1, oP 11 (.slice 1 (.t 9) none (some (.t 10)) none), oV 0 11]) .skip)) (.seq (.reg [oK 12 (.buildSlice 1 0 [(.int .u8 0)] []), oV 13 0, oN 14 (.append 1 1 (.t 12) (.t 13)), oV 4 14]) .ret))), results := [(.tmp 4)] }
theorem WF81_is : cFunc Try.prog 81 [] = some WF81 := by kernel_rfl
theorem WF81_ok : WF81.code.okc = true := by kernel_rfl

/- slices.Concat[[]byte,byte] -/
def WB82_0 : ACode := (.seq (.reg [oP 12 (.bin .lss (.t 11) (.t 10))]) (.seq (.cond (.t 12) .skip (.exit 0)) (.seq (.block 1 (.seq (.reg [oP 13 (.idxSlice 1 (.t 9) (.t 11)), oL 14 (.load false 1 (.t 13)), oV 5 14]) (.seq (.reg [oV 15 3, oV 16 5, oP 17 (.len false (.t 16)), oP 18 (.bin .add (.t 15) (.t 17)), oV 3 18]) (.seq (.reg [oV 19 3, oP 20 (.bin .lss (.t 19) (iC 0))]) (.cond (.t 20) (.reg [oN 21 .fail, oZ .fail]) .skip))))) (.reg [oP 22 (.bin .add (.t 11) (iC 1)), oV 11 22]))))
theorem WB82_0_ok : WB82_0.okc = true := by kernel_rfl
def WB82_1 : ACode := (.seq (.reg [oP 28 (.bin .lss (.t 27) (.t 26))]) (.seq (.cond (.t 28) .skip (.exit 2)) (.seq (.block 3 (.seq (.reg [oP 29 (.idxSlice 1 (.t 25) (.t 27)), oL 30 (.load false 1 (.t 29)), oV 8 30]) (.reg [oV 31 6, oV 32 8, oN 33 (.append 1 1 (.t 31) (.t 32)), oV 6 33]))) (.reg [oP 34 (.bin .add (.t 27) (iC 1)), oV 27 34]))))
theorem WB82_1_ok : WB82_1.okc = true := by kernel_rfl
def WF82 : AFunc := { nargs := 1, ntmps := 36, code := (.seq (.reg [oC 2 (.slice none 1 0 0 true)]) (.seq (.reg [oC 3 (.int .i64 0)]) (.seq (.seq (.reg [oV 9 0, oP 10 (.len false (.t 9)), oC 11 (.int .i64 0)]) (.block 0 (.loop [0, 3, 9, 10, 11] WB82_0))) (.seq (.reg [oV 23 3, oN 24 (.call (.c (.func 89 [])) [(.c (.slice none 1 0 0 true)), (.t 23)]), oV 6 24]) (.seq (.seq (.reg [oV 25 0, oP 26 (.len false (.t 25)), oC 27 (.int .i64 0)]) (.block 2 (.loop [6, 25, 26, 27] WB82_1))) (.seq (.reg [oV 35 6, oV 2 35]) .ret)))))), results := [(.tmp 2)] }
theorem WF82_is : cFunc Try.prog 82 [[0, 3, 9, 10, 11], [6, 25, 26, 27]] = some WF82 := by kernel_rfl
theorem WF82_ok : WF82.code.okc = true := by kernel_rfl

/- slices.Grow[[]byte,byte] -/
def WF89 : AFunc := { nargs := 2, ntmps := 27, code := (.seq (.reg [oC 4 (.slice none 1 0 0 true)]) (.seq (.seq (.reg [oV 5 1, oP 6 (.bin .lss (.t 5) (iC 0))]) (.cond (.t 6) (.reg [oN 7 .fail, oZ .fail]) .skip)) (.seq (.seq (.reg [oV 8 1, oV 9 0, oP 10 (.cap (.t 9)), oV 11 0, oP 12 (.len false (.t 11)), oP 13 (.bin .sub (.t 10) (.t 12)), oP 14 (.bin .sub (.t 8) (.t 13)), oV 1 14]) (.seq (.reg [oV 15 1, oP 16 (.bin .gtr (.t 15) (iC 0))]) (.cond (.t 16) (.reg [oV 17 0, oV 18 0, oP 19 (.cap (.t 18)), oP 20 (.slice 1 (.t 17) none (some (.t 19)) none), oV 21 1, oN 22 (.appendZ 1 1 [(.int .u8 0)] (.t 20) (.t 21)), oV 23 0, oP 24 (.len false (.t 23)), oP 25 (.slice 1 (.t 22) none (some (.t 24)) none), oV 0 25]) .skip))) (.seq (.reg [oV 26 0, oV 4 26]) .ret)))), results := [(.tmp 4)] }
theorem WF89_is : cFunc Try.prog 89 [] = some WF89 := by kernel_rfl
theorem WF89_ok : WF89.code.okc = true := by kernel_rfl

end Go.Proofs.Yteibgagdnidojaa
