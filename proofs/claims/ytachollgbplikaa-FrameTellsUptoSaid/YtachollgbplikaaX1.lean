/- The functions' machine code, part 1: literals, each read off the program by the kernel. -/
import Derived.Test.YtachollgbplikaaJ5
import Derived.Test.YtachollgbplikaaProg
set_option linter.all false
set_option maxRecDepth 100000
namespace Go.Proofs.Ytachollgbplikaa
/- osmosis/osmosislaw3.FrameTells -/
def WJ4_bbbbaa : ACode := (.reg [oV 37 14, oP 38 (.len false (.t 37)), oP 39 (.bin .gtr (.t 38) (iC 0)), oV 40 39, oG 40 true (oV 41 3), oG 40 true (oP 42 (.bin .rem (.t 41) (iC 3))), oG 40 true (oP 43 (.bin .eql (.t 42) (iC 0))), oP 44 (.pick (.t 40) (.t 43) (.c (.bool false)))])
theorem WJ4_bbbbaa_ok : WJ4_bbbbaa.okc = true := by kernel_rfl
def WJ4_bbbba : ACode := (.seq WJ4_bbbbaa (.cond (.t 44) (.reg [oV 45 14, oV 46 3, oP 47 (.bin .quo (.t 46) (iC 3)), oV 48 14, oP 49 (.len false (.t 48)), oN 50 (.call (.c (.func 28 [])) [(.t 47), (.t 49)]), oP 51 (.idxSlice 1 (.t 45) (.t 50)), oL 52 (.load false 1 (.t 51)), oV 53 4, oP 54 (.bin .xor (.t 52) (.t 53)), oP 55 (.idxSlice 1 (.t 45) (.t 50)), oZ (.store 1 (.t 55) (.t 54))]) .skip))
theorem WJ4_bbbba_ok : WJ4_bbbba.okc = true := by kernel_rfl
def WJ4_bbbbba : ACode := (.seq (.reg [oV 56 5, oP 57 (.bin .rem (.t 56) (iC 2)), oP 58 (.bin .eql (.t 57) (iC 0))]) (.cond (.t 58) (.reg [oV 59 14, oV 60 5, oP 61 (.bin .quo (.t 60) (iC 2)), oV 62 14, oP 63 (.len false (.t 62)), oP 64 (.bin .add (.t 63) (iC 1)), oN 65 (.call (.c (.func 28 [])) [(.t 61), (.t 64)]), oP 66 (.slice 1 (.t 59) none (some (.t 65)) none), oV 14 66]) .skip))
theorem WJ4_bbbbba_ok : WJ4_bbbbba.okc = true := by kernel_rfl
def WJ4_bbbbbbabklbbakbbba : ACode := (.seq (.reg [oV 83 18, oV 84 20, oP 85 (.bin .neq (.t 83) (.t 84)), oV 86 85, oG 86 false (oV 87 17), oG 86 false (oP 88 (.len false (.t 87))), oG 86 false (oV 89 19), oG 86 false (oP 90 (.len false (.t 89))), oG 86 false (oP 91 (.bin .neq (.t 88) (.t 90))), oP 92 (.pick (.t 86) (.c (.bool true)) (.t 91))]) (.cond (.t 92) (.seq (.reg [oC 12 (.bool false)]) .ret) .skip))
theorem WJ4_bbbbbbabklbbakbbba_ok : WJ4_bbbbbbabklbbakbbba.okc = true := by kernel_rfl
def WB4_1 : ACode := (.seq (.reg [oP 96 (.bin .lss (.t 95) (.t 94))]) (.seq (.cond (.t 96) .skip (.exit 2)) (.seq (.block 3 (.seq (.reg [oV 97 95, oV 21 97]) (.seq (.dreg 0 [oD (oV 98 17) 0 0, oD (oV 99 21) 0 0, oD (oP 100 (.idxSlice 1 (.t 98) (.t 99))) 0 0, oD (oL 101 (.load false 1 (.t 100))) 0 0, oD (oL 102 (.bytesStr (.t 101))) 0 0, oD (oV 103 19) 0 0, oD (oV 104 21) 0 0, oD (oP 105 (.idxSlice 1 (.t 103) (.t 104))) 0 0, oD (oL 106 (.load false 1 (.t 105))) 0 0, oD (oL 107 (.bytesStr (.t 106))) 0 0, oD (oP 108 (.bin .neq (.t 102) (.t 107))) 0 0]) (.cond (.t 108) (.seq (.reg [oC 12 (.bool false)]) .ret) .skip)))) (.reg [oP 109 (.bin .add (.t 95) (iC 1)), oV 95 109]))))
theorem WB4_1_ok : WB4_1.okc = true := by kernel_rfl
def WB4_0 : ACode := (.seq (.reg [oP 71 (.bin .lss (.t 70) (iC 2))]) (.seq (.cond (.t 71) .skip (.exit 0)) (.seq (.block 1 (.seq (.reg [oP 72 (.index false 2 1 (.t 69) (.t 70)), oV 16 72]) (.seq (.reg [oV 74 16, oN 75 (.call (.c (.func 24 [])) [(.t 74)]), oV 73 75, oP 76 (.extract (.t 73) 0), oP 77 (.extract (.t 73) 1), oV 17 76, oV 18 77]) (.seq (.reg [oV 79 16, oN 80 (.call (.c (.func 29 [])) [(.t 79)]), oV 78 80, oP 81 (.extract (.t 78) 0), oP 82 (.extract (.t 78) 1), oV 19 81, oV 20 82]) (.seq WJ4_bbbbbbabklbbakbbba (.seq (.reg [oV 93 17, oP 94 (.len false (.t 93)), oC 95 (.int .i64 0)]) (.block 2 (.loop [17, 19, 69, 70, 94, 95] WB4_1)))))))) (.reg [oP 110 (.bin .add (.t 70) (iC 1)), oV 70 110]))))
theorem WB4_0_ok : WB4_0.okc = true := by kernel_rfl
def WF4 : AFunc := { nargs := 6, ntmps := 112, code := (.seq (.reg [oC 12 (.bool false)]) (.seq (.reg [oV 22 0, oV 23 1, oN 24 (.call (.c (.func 26 [])) [(.t 23)]), oN 25 (.call (.c (.func 23 [])) [(.t 22), (.t 24)]), oV 13 25]) (.seq (.seq (.dreg 0 [oD (oV 29 1) 0 0, oD (oN 30 (.call (.c (.func 26 [])) [(.t 29)])) 0 0, oD (oV 28 0) 0 0, oD (oN 31 (.call (.c (.func 27 [])) [(.t 28), (.t 30)])) 1 0, oD (oV 26 13) 0 0, oD (oL 27 (.bytesStr (.t 26))) 0 0, oD (oL 32 (.bytesStr (.t 31))) 2 0, oD (oP 33 (.bin .neq (.t 27) (.t 32))) 2 0]) (.cond (.t 33) (.seq (.reg [oC 12 (.bool false)]) .ret) .skip)) (.seq (.reg [oV 34 1, oN 35 (.call (.c (.func 26 [])) [(.t 34)]), oN 36 (.call (.c (.func 27 [])) [(.c (.slice none 1 0 0 true)), (.t 35)]), oV 14 36]) (.seq WJ4_bbbba (.seq WJ4_bbbbba (.seq (.seq (.reg [oV 67 14, oV 68 2, oP 69 (.build [(.slice none 1 0 0 true), (.slice none 1 0 0 true)] [(0, (1, (.t 67))), (1, (1, (.t 68)))]), oC 70 (.int .i64 0)]) (.block 0 (.loop [69, 70] WB4_0))) (.seq (.reg [oN 111 (.call (.c (.func 25 [])) []), oV 12 111]) .ret)))))))), results := [(.tmp 12)] }
theorem WF4_is : cFunc Try.prog 4 [[69, 70], [17, 19, 69, 70, 94, 95]] = some WF4 := by kernel_rfl
theorem WF4_ok : WF4.code.okc = true := by kernel_rfl

/- osmosis/frame.Lay -/
def WB23_0 : ACode := (.seq (.reg [oP 13 (.bin .lss (.t 12) (.t 11))]) (.seq (.cond (.t 13) .skip (.exit 0)) (.seq (.block 1 (.seq (.reg [oP 14 (.idxSlice 1 (.t 10) (.t 12)), oL 15 (.load false 1 (.t 14)), oV 7 15]) (.reg [oV 16 5, oV 17 7, oP 18 (.len false (.t 17)), oK 19 (.buildSlice 1 1 [(.int .i64 0)] [(0, (.t 18))]), oN 20 (.call (.c (.func 82 [])) [(.t 16), (.t 19)]), oV 21 7, oN 22 (.call (.c (.func 83 [])) [(.t 21)]), oV 23 7, oK 24 (.buildSlice 1 3 [(.slice none 1 0 0 true)] [(0, (.t 20)), (1, (.t 22)), (2, (.t 23))]), oN 25 (.call (.c (.func 81 [])) [(.t 24)]), oV 5 25]))) (.reg [oP 26 (.bin .add (.t 12) (iC 1)), oV 12 26]))))
theorem WB23_0_ok : WB23_0.okc = true := by kernel_rfl
def WF23 : AFunc := { nargs := 2, ntmps := 29, code := (.seq (.reg [oC 4 (.slice none 1 0 0 true)]) (.seq (.reg [oV 8 0, oN 9 (.call (.c (.func 80 [])) [(.t 8)]), oV 5 9]) (.seq (.seq (.reg [oV 10 1, oP 11 (.len false (.t 10)), oC 12 (.int .i64 0)]) (.block 0 (.loop [5, 10, 11, 12] WB23_0))) (.seq (.reg [oV 27 5, oN 28 (.call (.c (.func 84 [])) [(.t 27)]), oV 4 28]) .ret)))), results := [(.tmp 4)] }
theorem WF23_is : cFunc Try.prog 23 [[5, 10, 11, 12]] = some WF23 := by kernel_rfl
theorem WF23_ok : WF23.code.okc = true := by kernel_rfl

/- osmosis/frame.Read -/
def WB24_0 : ACode := (.block 1 (.seq (.reg [oV 8 0, oV 9 3, oP 10 (.slice 1 (.t 8) (some (.t 9)) none none), oN 11 (.call (.c (.func 85 [])) [(.t 10)]), oV 7 11, oP 12 (.extract (.t 7) 0), oP 13 (.extract (.t 7) 1), oP 14 (.extract (.t 7) 2), oV 4 12, oV 5 13, oV 6 14]) (.seq (.seq (.reg [oV 15 6, oP 16 (.un .not (.t 15))]) (.cond (.t 16) (.seq (.reg [oV 17 2, oN 18 (.call (.c (.func 86 [])) [(.t 17)]), oV 19 3, oV 2 18, oV 3 19]) .ret) .skip)) (.seq (.reg [oV 20 2, oV 21 4, oK 22 (.buildSlice 1 1 [(.slice none 1 0 0 true)] [(0, (.t 21))]), oN 23 (.append 1 24 (.t 20) (.t 22)), oV 2 23]) (.reg [oV 24 3, oV 25 5, oP 26 (.bin .add (.t 24) (.t 25)), oV 3 26])))))
theorem WB24_0_ok : WB24_0.okc = true := by kernel_rfl
def WF24 : AFunc := { nargs := 1, ntmps := 27, code := (.seq (.reg [oC 2 (.slice none 1 0 0 true), oC 3 (.int .i64 0)]) (.block 0 (.loop [0, 2, 3] WB24_0))), results := [(.tmp 2), (.tmp 3)] }
theorem WF24_is : cFunc Try.prog 24 [[0, 2, 3]] = some WF24 := by kernel_rfl
theorem WF24_ok : WF24.code.okc = true := by kernel_rfl

/- osmosis/osmosislaw3.known -/
def WF25 : AFunc := { nargs := 0, ntmps := 39, code := (.seq (.reg [oC 0 (.bool false)]) (.seq (.reg [oK 4 (.buildSlice 1 1 [(.int .u8 0)] [(0, (.c (.int .u8 97)))]), oN 5 (.cvBytes (.t 4)), oK 6 (.buildSlice 1 1 [(.int .u8 0)] [(0, (.c (.int .u8 98)))]), oN 7 (.cvBytes (.t 6)), oK 8 (.buildSlice 1 2 [(.slice none 1 0 0 true)] [(0, (.t 5)), (1, (.t 7))]), oN 9 (.call (.c (.func 23 [])) [(.c (.slice none 1 0 0 true)), (.t 8)]), oV 1 9]) (.seq (.reg [oV 11 1, oV 12 1, oP 13 (.len false (.t 12)), oP 14 (.bin .sub (.t 13) (iC 1)), oP 15 (.minmax true [(iC 0), (.t 14)]), oP 16 (.slice 1 (.t 11) none (some (.t 15)) none), oN 17 (.call (.c (.func 24 [])) [(.t 16)]), oV 10 17, oP 18 (.extract (.t 10) 0), oP 19 (.extract (.t 10) 1), oV 2 18, oV 3 19]) (.seq (.reg [oV 20 1, oP 21 (.len false (.t 20)), oP 22 (.bin .eql (.t 21) (iC 20)), oV 23 22, oG 23 true (oV 24 2), oG 23 true (oP 25 (.len false (.t 24))), oG 23 true (oP 26 (.bin .eql (.t 25) (iC 1))), oP 27 (.pick (.t 23) (.t 26) (.c (.bool false))), oV 28 27, oG 28 true (oV 29 2), oG 28 true (oP 30 (.idxSlice 1 (.t 29) (iC 0))), oG 28 true (oL 31 (.load false 1 (.t 30))), oG 28 true (oL 32 (.bytesStr (.t 31))), oG 28 true (oP 33 (.bin .eql (.t 32) (.c (.str [97])))), oP 34 (.pick (.t 28) (.t 33) (.c (.bool false))), oV 35 34, oG 35 true (oV 36 3), oG 35 true (oP 37 (.bin .eql (.t 36) (iC 10))), oP 38 (.pick (.t 35) (.t 37) (.c (.bool false))), oV 0 38]) .ret)))), results := [(.tmp 0)] }
theorem WF25_is : cFunc Try.prog 25 [] = some WF25 := by kernel_rfl
theorem WF25_ok : WF25.code.okc = true := by kernel_rfl

/- osmosis/osmosislaw3.some -/
def WJ26_bbabkla : ACode := (.seq (.reg [oV 5 4, oV 6 0, oP 7 (.len false (.t 6)), oP 8 (.bin .lss (.t 5) (.t 7)), oV 9 8, oG 9 true (oV 10 4), oG 9 true (oP 11 (.bin .lss (.t 10) (iC 8))), oP 12 (.pick (.t 9) (.t 11) (.c (.bool false)))]) (.cond (.t 12) .skip (.exit 0)))
theorem WJ26_bbabkla_ok : WJ26_bbabkla.okc = true := by kernel_rfl
def WB26_0 : ACode := (.seq WJ26_bbabkla (.seq (.block 1 (.reg [oV 15 3, oV 16 0, oV 17 4, oP 18 (.idxSlice 1 (.t 16) (.t 17)), oL 19 (.load false 1 (.t 18)), oN 20 (.call (.c (.func 34 [])) [(.t 19), (iC 200)]), oK 21 (.buildSlice 1 1 [(.slice none 1 0 0 true)] [(0, (.t 20))]), oN 22 (.append 1 24 (.t 15) (.t 21)), oV 3 22])) (.reg [oV 13 4, oP 14 (.bin .add (.t 13) (iC 1)), oV 4 14])))
theorem WB26_0_ok : WB26_0.okc = true := by kernel_rfl
def WF26 : AFunc := { nargs := 1, ntmps := 24, code := (.seq (.reg [oC 2 (.slice none 1 0 0 true)]) (.seq (.reg [oC 3 (.slice none 1 0 0 true)]) (.seq (.seq (.reg [oC 4 (.int .i64 0)]) (.block 0 (.loop [0, 3, 4] WB26_0))) (.seq (.reg [oV 23 3, oV 2 23]) .ret)))), results := [(.tmp 2)] }
theorem WF26_is : cFunc Try.prog 26 [[0, 3, 4]] = some WF26 := by kernel_rfl
theorem WF26_ok : WF26.code.okc = true := by kernel_rfl

/- osmosis/osmosisref1.Frame -/
def WB27_0 : ACode := (.seq (.seq (.reg [oV 10 6, oV 11 1, oP 12 (.len false (.t 11)), oP 13 (.bin .lss (.t 10) (.t 12))]) (.cond (.t 13) .skip (.exit 0))) (.seq (.block 1 (.seq (.reg [oV 16 5, oV 17 1, oV 18 6, oP 19 (.idxSlice 1 (.t 17) (.t 18)), oL 20 (.load false 1 (.t 19)), oP 21 (.len false (.t 20)), oK 22 (.buildSlice 1 1 [(.int .i64 0)] [(0, (.t 21))]), oN 23 (.call (.c (.func 87 [])) [(.t 16), (.t 22)]), oV 5 23]) (.seq (.reg [oV 24 5, oV 25 1, oV 26 6, oP 27 (.idxSlice 1 (.t 25) (.t 26)), oL 28 (.load false 1 (.t 27)), oL 29 (.bytesStr (.t 28)), oK 30 (.buildSlice 1 1 [(.str [])] [(0, (.t 29))]), oN 31 (.call (.c (.func 89 [])) [(.t 30)]), oN 32 (.call (.c (.func 88 [])) [(.t 31)]), oN 33 (.append 1 1 (.t 24) (.t 32)), oV 5 33]) (.reg [oV 34 5, oV 35 1, oV 36 6, oP 37 (.idxSlice 1 (.t 35) (.t 36)), oL 38 (.load false 1 (.t 37)), oN 39 (.append 1 1 (.t 34) (.t 38)), oV 5 39])))) (.reg [oV 14 6, oP 15 (.bin .add (.t 14) (iC 1)), oV 6 15])))
theorem WB27_0_ok : WB27_0.okc = true := by kernel_rfl
def WF27 : AFunc := { nargs := 2, ntmps := 41, code := (.seq (.reg [oC 4 (.slice none 1 0 0 true)]) (.seq (.reg [oK 7 (.buildSlice 1 0 [(.int .u8 0)] []), oV 8 0, oN 9 (.append 1 1 (.t 7) (.t 8)), oV 5 9]) (.seq (.seq (.reg [oC 6 (.int .i64 0)]) (.block 0 (.loop [1, 5, 6] WB27_0))) (.seq (.reg [oV 40 5, oV 4 40]) .ret)))), results := [(.tmp 4)] }
theorem WF27_is : cFunc Try.prog 27 [[1, 5, 6]] = some WF27 := by kernel_rfl
theorem WF27_ok : WF27.code.okc = true := by kernel_rfl

/- osmosis/osmosishand.Pick -/
def WF28 : AFunc := { nargs := 2, ntmps := 14, code := (.seq (.reg [oC 4 (.int .i64 0)]) (.seq (.reg [oV 5 0, oV 6 1, oP 7 (.bin .rem (.t 5) (.t 6)), oV 0 7]) (.seq (.seq (.reg [oV 8 0, oP 9 (.bin .lss (.t 8) (iC 0))]) (.cond (.t 9) (.reg [oV 10 0, oV 11 1, oP 12 (.bin .add (.t 10) (.t 11)), oV 0 12]) .skip)) (.seq (.reg [oV 13 0, oV 4 13]) .ret)))), results := [(.tmp 4)] }
theorem WF28_is : cFunc Try.prog 28 [] = some WF28 := by kernel_rfl
theorem WF28_ok : WF28.code.okc = true := by kernel_rfl

/- osmosis/osmosisref1.Frames -/
def WJ29_bbbklkbbaa : ACode := (.reg [oV 20 9, oP 21 (.bin .neq (.t 20) (iC 0)), oV 22 21, oG 22 false (oV 23 7), oG 22 false (oP 24 (.bin .gtr (.t 23) (iC 4000))), oP 25 (.pick (.t 22) (.c (.bool true)) (.t 24)), oV 26 25, oG 26 false (oV 27 8), oG 26 false (oP 28 (.len false (.t 27))), oG 26 false (oV 29 7), oG 26 false (oP 30 (.bin .add (iC 8) (.t 29))), oG 26 false (oP 31 (.bin .lss (.t 28) (.t 30))), oP 32 (.pick (.t 26) (.c (.bool true)) (.t 31))])
theorem WJ29_bbbklkbbaa_ok : WJ29_bbbklkbbaa.okc = true := by kernel_rfl
def WJ29_bbbklkbba : ACode := (.seq WJ29_bbbklkbbaa (.cond (.t 32) (.seq (.reg [oV 33 4, oV 34 5, oV 2 33, oV 3 34]) .ret) .skip))
theorem WJ29_bbbklkbba_ok : WJ29_bbbklkbba.okc = true := by kernel_rfl
def WB29_0 : ACode := (.block 1 (.seq (.reg [oV 11 0, oV 12 5, oP 13 (.slice 1 (.t 11) (some (.t 12)) none none), oV 6 13]) (.seq (.reg [oV 15 6, oN 16 (.call (.c (.func 90 [])) [(.t 15)]), oV 14 16, oP 17 (.extract (.t 14) 0), oP 18 (.extract (.t 14) 1), oP 19 (.extract (.t 14) 2), oV 7 17, oV 8 18, oV 9 19]) (.seq WJ29_bbbklkbba (.seq (.reg [oK 35 (.buildSlice 1 0 [(.int .u8 0)] []), oV 36 8, oV 37 7, oP 38 (.bin .add (iC 8) (.t 37)), oP 39 (.slice 1 (.t 36) (some (iC 8)) (some (.t 38)) none), oN 40 (.append 1 1 (.t 35) (.t 39)), oV 10 40]) (.seq (.seq (.dreg 1 [oD (oV 44 10) 0 1, oD (oL 45 (.bytesStr (.t 44))) 0 1, oD (oK 46 (.buildSlice 1 1 [(.str [])] [(0, (.t 45))])) 0 0, oD (oN 47 (.call (.c (.func 89 [])) [(.t 46)])) 0 1, oD (oN 48 (.call (.c (.func 88 [])) [(.t 47)])) 1 1, oD (oV 41 8) 0 1, oD (oP 42 (.slice 1 (.t 41) none (some (iC 8)) none)) 0 1, oD (oL 43 (.bytesStr (.t 42))) 0 1, oD (oL 49 (.bytesStr (.t 48))) 2 1, oD (oP 50 (.bin .neq (.t 43) (.t 49))) 2 1]) (.cond (.t 50) (.seq (.reg [oV 51 4, oV 52 5, oV 2 51, oV 3 52]) .ret) .skip)) (.seq (.reg [oV 53 4, oV 54 10, oK 55 (.buildSlice 1 1 [(.slice none 1 0 0 true)] [(0, (.t 54))]), oN 56 (.append 1 24 (.t 53) (.t 55)), oV 4 56]) (.reg [oV 57 5, oV 58 6, oP 59 (.len false (.t 58)), oP 60 (.bin .add (.t 57) (.t 59)), oV 61 8, oP 62 (.len false (.t 61)), oP 63 (.bin .sub (.t 60) (.t 62)), oP 64 (.bin .add (.t 63) (iC 8)), oV 65 7, oP 66 (.bin .add (.t 64) (.t 65)), oV 5 66]))))))))
theorem WB29_0_ok : WB29_0.okc = true := by kernel_rfl
def WF29 : AFunc := { nargs := 1, ntmps := 67, code := (.seq (.reg [oC 2 (.slice none 1 0 0 true), oC 3 (.int .i64 0)]) (.seq (.reg [oC 4 (.slice none 1 0 0 true)]) (.seq (.reg [oC 5 (.int .i64 0)]) (.block 0 (.loop [0, 4, 5] WB29_0))))), results := [(.tmp 2), (.tmp 3)] }
theorem WF29_is : cFunc Try.prog 29 [[0, 4, 5]] = some WF29 := by kernel_rfl
theorem WF29_ok : WF29.code.okc = true := by kernel_rfl

/- osmosis/osmosishand.Few -/
def WF34 : AFunc := { nargs := 2, ntmps := 15, code := (.seq (.reg [oC 4 (.slice none 1 0 0 true)]) (.seq (.seq (.reg [oV 5 0, oP 6 (.len false (.t 5)), oV 7 1, oP 8 (.bin .gtr (.t 6) (.t 7))]) (.cond (.t 8) (.reg [oV 9 0, oV 10 1, oP 11 (.slice 1 (.t 9) none (some (.t 10)) none), oV 0 11]) .skip)) (.seq (.reg [oK 12 (.buildSlice 1 0 [(.int .u8 0)] []), oV 13 0, oN 14 (.append 1 1 (.t 12) (.t 13)), oV 4 14]) .ret))), results := [(.tmp 4)] }
theorem WF34_is : cFunc Try.prog 34 [] = some WF34 := by kernel_rfl
theorem WF34_ok : WF34.code.okc = true := by kernel_rfl

/- slices.Clone[[]byte,byte] -/
def WF80 : AFunc := { nargs := 1, ntmps := 8, code := (.seq (.reg [oC 2 (.slice none 1 0 0 true)]) (.seq (.seq (.reg [oV 3 0, oP 4 (.eqN false (.t 3) (.c (.slice none 1 0 0 true)))]) (.cond (.t 4) (.seq (.reg [oC 2 (.slice none 1 0 0 true)]) .ret) .skip)) (.seq (.reg [oK 5 (.buildSlice 1 0 [(.int .u8 0)] []), oV 6 0, oN 7 (.append 1 1 (.t 5) (.t 6)), oV 2 7]) .ret))), results := [(.tmp 2)] }
theorem WF80_is : cFunc Try.prog 80 [] = some WF80 := by kernel_rfl
theorem WF80_ok : WF80.code.okc = true := by kernel_rfl

/- slices.Concat[[]byte,byte] -/
def WB81_0 : ACode := (.seq (.reg [oP 12 (.bin .lss (.t 11) (.t 10))]) (.seq (.cond (.t 12) .skip (.exit 0)) (.seq (.block 1 (.seq (.reg [oP 13 (.idxSlice 1 (.t 9) (.t 11)), oL 14 (.load false 1 (.t 13)), oV 5 14]) (.seq (.reg [oV 15 3, oV 16 5, oP 17 (.len false (.t 16)), oP 18 (.bin .add (.t 15) (.t 17)), oV 3 18]) (.seq (.reg [oV 19 3, oP 20 (.bin .lss (.t 19) (iC 0))]) (.cond (.t 20) (.reg [oN 21 .fail, oZ .fail]) .skip))))) (.reg [oP 22 (.bin .add (.t 11) (iC 1)), oV 11 22]))))
theorem WB81_0_ok : WB81_0.okc = true := by kernel_rfl
def WB81_1 : ACode := (.seq (.reg [oP 28 (.bin .lss (.t 27) (.t 26))]) (.seq (.cond (.t 28) .skip (.exit 2)) (.seq (.block 3 (.seq (.reg [oP 29 (.idxSlice 1 (.t 25) (.t 27)), oL 30 (.load false 1 (.t 29)), oV 8 30]) (.reg [oV 31 6, oV 32 8, oN 33 (.append 1 1 (.t 31) (.t 32)), oV 6 33]))) (.reg [oP 34 (.bin .add (.t 27) (iC 1)), oV 27 34]))))
theorem WB81_1_ok : WB81_1.okc = true := by kernel_rfl
def WF81 : AFunc := { nargs := 1, ntmps := 36, code := (.seq (.reg [oC 2 (.slice none 1 0 0 true)]) (.seq (.reg [oC 3 (.int .i64 0)]) (.seq (.seq (.reg [oV 9 0, oP 10 (.len false (.t 9)), oC 11 (.int .i64 0)]) (.block 0 (.loop [0, 3, 9, 10, 11] WB81_0))) (.seq (.reg [oV 23 3, oN 24 (.call (.c (.func 117 [])) [(.c (.slice none 1 0 0 true)), (.t 23)]), oV 6 24]) (.seq (.seq (.reg [oV 25 0, oP 26 (.len false (.t 25)), oC 27 (.int .i64 0)]) (.block 2 (.loop [6, 25, 26, 27] WB81_1))) (.seq (.reg [oV 35 6, oV 2 35]) .ret)))))), results := [(.tmp 2)] }
theorem WF81_is : cFunc Try.prog 81 [[0, 3, 9, 10, 11], [6, 25, 26, 27]] = some WF81 := by kernel_rfl
theorem WF81_ok : WF81.code.okc = true := by kernel_rfl

/- osmosis/nums.Put -/
def WJ82_bbabklbbakba : ACode := (.seq (.reg [oV 16 7, oP 17 (.bin .lss (.t 16) (iC 0)), oV 18 17, oG 18 false (oV 19 7), oG 18 false (oP 20 (.bin .gtr (.t 19) (iC 4611686018427387903))), oP 21 (.pick (.t 18) (.c (.bool true)) (.t 20))]) (.cond (.t 21) (.seq (.reg [oC 4 (.slice none 1 0 0 true)]) .ret) .skip))
theorem WJ82_bbabklbbakba_ok : WJ82_bbabklbbakba.okc = true := by kernel_rfl
def WB82_1 : ACode := (.seq (.seq (.reg [oV 22 7, oP 23 (.bin .gtr (.t 22) (iC 127))]) (.cond (.t 23) .skip (.exit 2))) (.block 3 (.seq (.reg [oV 24 5, oV 25 7, oP 26 (.bin .and (.t 25) (iC 127)), oP 27 (.bin .or (.t 26) (iC 128)), oP 28 (.cvInt .u8 (.t 27)), oK 29 (.buildSlice 1 1 [(.int .u8 0)] [(0, (.t 28))]), oN 30 (.append 1 1 (.t 24) (.t 29)), oV 5 30]) (.reg [oV 31 7, oP 32 (.bin .shr (.t 31) (.c (.int .u64 7))), oV 7 32]))))
theorem WB82_1_ok : WB82_1.okc = true := by kernel_rfl
def WB82_0 : ACode := (.seq (.reg [oP 13 (.bin .lss (.t 12) (.t 11))]) (.seq (.cond (.t 13) .skip (.exit 0)) (.seq (.block 1 (.seq (.reg [oP 14 (.idxSlice 1 (.t 10) (.t 12)), oL 15 (.load false 1 (.t 14)), oV 7 15]) (.seq WJ82_bbabklbbakba (.seq (.block 2 (.loop [5, 7, 10, 11, 12] WB82_1)) (.reg [oV 33 5, oV 34 7, oP 35 (.cvInt .u8 (.t 34)), oK 36 (.buildSlice 1 1 [(.int .u8 0)] [(0, (.t 35))]), oN 37 (.append 1 1 (.t 33) (.t 36)), oV 5 37]))))) (.reg [oP 38 (.bin .add (.t 12) (iC 1)), oV 12 38]))))
theorem WB82_0_ok : WB82_0.okc = true := by kernel_rfl
def WF82 : AFunc := { nargs := 2, ntmps := 41, code := (.seq (.reg [oC 4 (.slice none 1 0 0 true)]) (.seq (.reg [oV 8 0, oN 9 (.call (.c (.func 80 [])) [(.t 8)]), oV 5 9]) (.seq (.seq (.reg [oV 10 1, oP 11 (.len false (.t 10)), oC 12 (.int .i64 0)]) (.block 0 (.loop [5, 10, 11, 12] WB82_0))) (.seq (.reg [oV 39 5, oN 40 (.call (.c (.func 84 [])) [(.t 39)]), oV 4 40]) .ret)))), results := [(.tmp 4)] }
theorem WF82_is : cFunc Try.prog 82 [[5, 10, 11, 12], [5, 7, 10, 11, 12]] = some WF82 := by kernel_rfl
theorem WF82_ok : WF82.code.okc = true := by kernel_rfl

/- osmosis/frame.sum -/
def WB83_0 : ACode := (.seq (.reg [oP 11 (.bin .lss (.t 10) (iC 8))]) (.seq (.cond (.t 11) .skip (.exit 0)) (.seq (.block 1 (.seq (.reg [oV 12 10, oV 5 12]) (.reg [oV 13 4, oV 14 3, oV 15 5, oP 16 (.bin .sub (iC 7) (.t 15)), oP 17 (.bin .mul (iC 8) (.t 16)), oP 18 (.bin .shr (.t 14) (.t 17)), oP 19 (.cvInt .u8 (.t 18)), oK 20 (.buildSlice 1 1 [(.int .u8 0)] [(0, (.t 19))]), oN 21 (.append 1 1 (.t 13) (.t 20)), oV 4 21]))) (.reg [oP 22 (.bin .add (.t 10) (iC 1)), oV 10 22]))))
theorem WB83_0_ok : WB83_0.okc = true := by kernel_rfl
def WF83 : AFunc := { nargs := 1, ntmps := 24, code := (.seq (.reg [oC 2 (.slice none 1 0 0 true)]) (.seq (.reg [oV 6 0, oL 7 (.bytesStr (.t 6)), oK 8 (.buildSlice 1 1 [(.str [])] [(0, (.t 7))]), oN 9 (.call (.c (.func 118 [])) [(.t 8)]), oV 3 9]) (.seq (.reg [oC 4 (.slice none 1 0 0 true)]) (.seq (.seq (.reg [oC 10 (.int .i64 0)]) (.block 0 (.loop [3, 4, 10] WB83_0))) (.seq (.reg [oV 23 4, oV 2 23]) .ret))))), results := [(.tmp 2)] }
theorem WF83_is : cFunc Try.prog 83 [[3, 4, 10]] = some WF83 := by kernel_rfl
theorem WF83_ok : WF83.code.okc = true := by kernel_rfl

/- slices.Clip[[]byte,byte] -/
def WF84 : AFunc := { nargs := 1, ntmps := 9, code := (.seq (.reg [oC 2 (.slice none 1 0 0 true)]) (.seq (.reg [oV 3 0, oV 4 0, oP 5 (.len false (.t 4)), oV 6 0, oP 7 (.len false (.t 6)), oP 8 (.slice 1 (.t 3) none (some (.t 5)) (some (.t 7))), oV 2 8]) .ret)), results := [(.tmp 2)] }
theorem WF84_is : cFunc Try.prog 84 [] = some WF84 := by kernel_rfl
theorem WF84_ok : WF84.code.okc = true := by kernel_rfl

/- osmosis/frame.one -/
def WJ85_bbba : ACode := (.seq (.reg [oV 29 7, oP 30 (.bin .neq (.t 29) (iC 0)), oV 31 30, oG 31 false (oV 32 5), oG 31 false (oP 33 (.bin .gtr (.t 32) (iC 4000))), oP 34 (.pick (.t 31) (.c (.bool true)) (.t 33)), oV 35 34, oG 35 false (oV 36 0), oG 35 false (oP 37 (.len false (.t 36))), oG 35 false (oV 38 8), oG 35 false (oV 39 5), oG 35 false (oP 40 (.bin .add (.t 38) (.t 39))), oG 35 false (oP 41 (.bin .lss (.t 37) (.t 40))), oP 42 (.pick (.t 35) (.c (.bool true)) (.t 41))]) (.cond (.t 42) (.seq (.reg [oC 2 (.slice none 1 0 0 true), oC 3 (.int .i64 0), oC 4 (.bool false)]) .ret) .skip))
theorem WJ85_bbba_ok : WJ85_bbba.okc = true := by kernel_rfl
def WF85 : AFunc := { nargs := 1, ntmps := 64, code := (.seq (.reg [oC 2 (.slice none 1 0 0 true), oC 3 (.int .i64 0), oC 4 (.bool false)]) (.seq (.reg [oV 10 0, oV 11 0, oP 12 (.len false (.t 11)), oP 13 (.minmax false [(.t 12), (iC 9)]), oP 14 (.slice 1 (.t 10) none (some (.t 13)) none), oN 15 (.call (.c (.func 119 [])) [(.t 14)]), oV 9 15, oP 16 (.extract (.t 9) 0), oP 17 (.extract (.t 9) 1), oP 18 (.extract (.t 9) 2), oV 5 16, oV 6 17, oV 7 18]) (.seq (.reg [oV 19 0, oV 20 0, oP 21 (.len false (.t 20)), oP 22 (.minmax false [(.t 21), (iC 9)]), oP 23 (.slice 1 (.t 19) none (some (.t 22)) none), oP 24 (.len false (.t 23)), oV 25 6, oP 26 (.len false (.t 25)), oP 27 (.bin .sub (.t 24) (.t 26)), oP 28 (.bin .add (.t 27) (iC 8)), oV 8 28]) (.seq WJ85_bbba (.seq (.reg [oV 43 0, oV 44 8, oV 45 8, oV 46 5, oP 47 (.bin .add (.t 45) (.t 46)), oP 48 (.slice 1 (.t 43) (some (.t 44)) (some (.t 47)) none), oV 2 48]) (.seq (.seq (.dreg 0 [oD (oV 49 2) 0 0, oD (oN 50 (.call (.c (.func 83 [])) [(.t 49)])) 0 0, oD (oV 51 0) 0 0, oD (oV 52 8) 0 0, oD (oP 53 (.bin .sub (.t 52) (iC 8))) 0 0, oD (oV 54 8) 0 0, oD (oP 55 (.slice 1 (.t 51) (some (.t 53)) (some (.t 54)) none)) 0 0, oD (oN 56 (.call (.c (.func 120 [])) [(.t 50), (.t 55)])) 1 0, oD (oP 57 (.un .not (.t 56))) 2 0]) (.cond (.t 57) (.seq (.reg [oC 2 (.slice none 1 0 0 true), oC 3 (.int .i64 0), oC 4 (.bool false)]) .ret) .skip)) (.seq (.reg [oV 58 2, oN 59 (.call (.c (.func 80 [])) [(.t 58)]), oN 60 (.call (.c (.func 84 [])) [(.t 59)]), oV 61 8, oV 62 5, oP 63 (.bin .add (.t 61) (.t 62)), oV 2 60, oV 3 63, oC 4 (.bool true)]) .ret))))))), results := [(.tmp 2), (.tmp 3), (.tmp 4)] }
theorem WF85_is : cFunc Try.prog 85 [] = some WF85 := by kernel_rfl
theorem WF85_ok : WF85.code.okc = true := by kernel_rfl

/- slices.Clip[[][]byte,[]byte] -/
def WF86 : AFunc := { nargs := 1, ntmps := 9, code := (.seq (.reg [oC 2 (.slice none 1 0 0 true)]) (.seq (.reg [oV 3 0, oV 4 0, oP 5 (.len false (.t 4)), oV 6 0, oP 7 (.len false (.t 6)), oP 8 (.slice 1 (.t 3) none (some (.t 5)) (some (.t 7))), oV 2 8]) .ret)), results := [(.tmp 2)] }
theorem WF86_is : cFunc Try.prog 86 [] = some WF86 := by kernel_rfl
theorem WF86_ok : WF86.code.okc = true := by kernel_rfl

/- osmosis/osmosisref1.Put -/
def WB87_1 : ACode := (.seq (.seq (.reg [oV 24 7, oP 25 (.bin .geq (.t 24) (iC 128))]) (.cond (.t 25) .skip (.exit 2))) (.block 3 (.seq (.reg [oV 26 5, oV 27 7, oP 28 (.bin .rem (.t 27) (iC 128)), oP 29 (.bin .add (iC 128) (.t 28)), oP 30 (.cvInt .u8 (.t 29)), oK 31 (.buildSlice 1 1 [(.int .u8 0)] [(0, (.t 30))]), oN 32 (.append 1 1 (.t 26) (.t 31)), oV 5 32]) (.reg [oV 33 7, oP 34 (.bin .quo (.t 33) (iC 128)), oV 7 34]))))
theorem WB87_1_ok : WB87_1.okc = true := by kernel_rfl
def WB87_0 : ACode := (.seq (.seq (.reg [oV 11 6, oV 12 1, oP 13 (.len false (.t 12)), oP 14 (.bin .lss (.t 11) (.t 13))]) (.cond (.t 14) .skip (.exit 0))) (.seq (.block 1 (.seq (.reg [oV 17 1, oV 18 6, oP 19 (.idxSlice 1 (.t 17) (.t 18)), oL 20 (.load false 1 (.t 19)), oV 7 20]) (.seq (.seq (.reg [oV 21 7, oN 22 (.call (.c (.func 121 [])) [(.t 21)]), oP 23 (.un .not (.t 22))]) (.cond (.t 23) (.seq (.reg [oC 4 (.slice none 1 0 0 true)]) .ret) .skip)) (.seq (.block 2 (.loop [1, 5, 6, 7] WB87_1)) (.reg [oV 35 5, oV 36 7, oP 37 (.cvInt .u8 (.t 36)), oK 38 (.buildSlice 1 1 [(.int .u8 0)] [(0, (.t 37))]), oN 39 (.append 1 1 (.t 35) (.t 38)), oV 5 39]))))) (.reg [oV 15 6, oP 16 (.bin .add (.t 15) (iC 1)), oV 6 16])))
theorem WB87_0_ok : WB87_0.okc = true := by kernel_rfl
def WF87 : AFunc := { nargs := 2, ntmps := 41, code := (.seq (.reg [oC 4 (.slice none 1 0 0 true)]) (.seq (.reg [oK 8 (.buildSlice 1 0 [(.int .u8 0)] []), oV 9 0, oN 10 (.append 1 1 (.t 8) (.t 9)), oV 5 10]) (.seq (.seq (.reg [oC 6 (.int .i64 0)]) (.block 0 (.loop [1, 5, 6] WB87_0))) (.seq (.reg [oV 40 5, oV 4 40]) .ret)))), results := [(.tmp 4)] }
theorem WF87_is : cFunc Try.prog 87 [[1, 5, 6], [1, 5, 6, 7]] = some WF87 := by kernel_rfl
theorem WF87_ok : WF87.code.okc = true := by kernel_rfl

/- osmosis/osmosisref1.eight -/
def WB88_0 : ACode := (.seq (.seq (.reg [oV 6 4, oP 7 (.bin .geq (.t 6) (iC 0))]) (.cond (.t 7) .skip (.exit 0))) (.seq (.block 1 (.seq (.reg [oV 10 3, oV 11 4, oV 12 0, oP 13 (.bin .rem (.t 12) (.c (.int .u64 256))), oP 14 (.cvInt .u8 (.t 13)), oP 15 (.idxSlice 1 (.t 10) (.t 11)), oZ (.store 1 (.t 15) (.t 14))]) (.reg [oV 16 0, oP 17 (.bin .quo (.t 16) (.c (.int .u64 256))), oV 0 17]))) (.reg [oV 8 4, oP 9 (.bin .sub (.t 8) (iC 1)), oV 4 9])))
theorem WB88_0_ok : WB88_0.okc = true := by kernel_rfl
def WF88 : AFunc := { nargs := 1, ntmps := 19, code := (.seq (.reg [oC 2 (.slice none 1 0 0 true)]) (.seq (.reg [oK 5 (.makeSlice 1 1 [(.int .u8 0)] (iC 8) (iC 8)), oV 3 5]) (.seq (.seq (.reg [oC 4 (.int .i64 7)]) (.block 0 (.loop [0, 3, 4] WB88_0))) (.seq (.reg [oV 18 3, oV 2 18]) .ret)))), results := [(.tmp 2)] }
theorem WF88_is : cFunc Try.prog 88 [[0, 3, 4]] = some WF88 := by kernel_rfl
theorem WF88_ok : WF88.code.okc = true := by kernel_rfl

/- osmosis/osmosisref1.Sum -/
def WB89_1 : ACode := (.seq (.seq (.reg [oV 12 5, oV 13 0, oV 14 4, oP 15 (.idxSlice 1 (.t 13) (.t 14)), oL 16 (.load false 1 (.t 15)), oP 17 (.len true (.t 16)), oP 18 (.bin .lss (.t 12) (.t 17))]) (.cond (.t 18) .skip (.exit 2))) (.seq (.block 3 (.reg [oV 21 3, oV 22 0, oV 23 4, oP 24 (.idxSlice 1 (.t 22) (.t 23)), oL 25 (.load false 1 (.t 24)), oV 26 5, oP 27 (.indexStr (.t 25) (.t 26)), oP 28 (.cvInt .u64 (.t 27)), oN 29 (.call (.c (.func 122 [])) [(.t 21), (.t 28)]), oV 3 29])) (.reg [oV 19 5, oP 20 (.bin .add (.t 19) (iC 1)), oV 5 20])))
theorem WB89_1_ok : WB89_1.okc = true := by kernel_rfl
def WB89_0 : ACode := (.seq (.seq (.reg [oV 6 4, oV 7 0, oP 8 (.len false (.t 7)), oP 9 (.bin .lss (.t 6) (.t 8))]) (.cond (.t 9) .skip (.exit 0))) (.seq (.block 1 (.seq (.seq (.reg [oC 5 (.int .i64 0)]) (.block 2 (.loop [0, 3, 4, 5] WB89_1))) (.reg [oV 30 3, oN 31 (.call (.c (.func 122 [])) [(.t 30), (.c (.int .u64 256))]), oV 3 31]))) (.reg [oV 10 4, oP 11 (.bin .add (.t 10) (iC 1)), oV 4 11])))
theorem WB89_0_ok : WB89_0.okc = true := by kernel_rfl
def WF89 : AFunc := { nargs := 1, ntmps := 33, code := (.seq (.reg [oC 2 (.int .u64 0)]) (.seq (.reg [oC 3 (.int .u64 14695981039346656037)]) (.seq (.seq (.reg [oC 4 (.int .i64 0)]) (.block 0 (.loop [0, 3, 4] WB89_0))) (.seq (.reg [oV 32 3, oV 2 32]) .ret)))), results := [(.tmp 2)] }
theorem WF89_is : cFunc Try.prog 89 [[0, 3, 4], [0, 3, 4, 5]] = some WF89 := by kernel_rfl
theorem WF89_ok : WF89.code.okc = true := by kernel_rfl

/- osmosis/osmosisref1.Take -/
def WJ90_bbabklbakbaa : ACode := (.reg [oV 19 6, oP 20 (.bin .eql (.t 19) (iC 9)), oV 21 20, oG 21 false (oV 22 6), oG 21 false (oP 23 (.bin .eql (.t 22) (iC 8))), oG 21 false (oV 24 23), oG 24 true (oV 25 7), oG 24 true (oP 26 (.bin .rem (.t 25) (iC 128))), oG 24 true (oP 27 (.bin .geq (.t 26) (iC 64))), oG 21 false (oP 28 (.pick (.t 24) (.t 27) (.c (.bool false)))), oP 29 (.pick (.t 21) (.c (.bool true)) (.t 28))])
theorem WJ90_bbabklbakbaa_ok : WJ90_bbabklbakbaa.okc = true := by kernel_rfl
def WJ90_bbabklbakba : ACode := (.seq WJ90_bbabklbakbaa (.cond (.t 29) (.seq (.reg [oV 30 0, oV 31 6, oN 32 (.call (.c (.func 123 [])) [(.t 30), (.t 31)]), oC 2 (.int .i64 0), oC 3 (.slice none 1 0 0 true), oV 4 32]) .ret) .skip))
theorem WJ90_bbabklbakba_ok : WJ90_bbabklbakba.okc = true := by kernel_rfl
def WJ90_bbabklbakbbbba : ACode := (.seq (.reg [oV 43 7, oP 44 (.bin .eql (.t 43) (iC 0)), oV 45 44, oG 45 true (oV 46 6), oG 45 true (oP 47 (.bin .gtr (.t 46) (iC 0))), oP 48 (.pick (.t 45) (.t 47) (.c (.bool false)))]) (.cond (.t 48) (.seq (.reg [oC 2 (.int .i64 0), oC 3 (.slice none 1 0 0 true), oC 4 (.int .i64 2)]) .ret) .skip))
theorem WJ90_bbabklbakbbbba_ok : WJ90_bbabklbakbbbba.okc = true := by kernel_rfl
def WB90_0 : ACode := (.seq (.seq (.reg [oV 8 6, oV 9 0, oP 10 (.len false (.t 9)), oP 11 (.bin .lss (.t 8) (.t 10))]) (.cond (.t 11) .skip (.exit 0))) (.seq (.block 1 (.seq (.reg [oV 14 0, oV 15 6, oP 16 (.idxSlice 1 (.t 14) (.t 15)), oL 17 (.load false 1 (.t 16)), oP 18 (.cvInt .i64 (.t 17)), oV 7 18]) (.seq WJ90_bbabklbakba (.seq (.reg [oV 33 5, oV 34 7, oP 35 (.bin .rem (.t 34) (iC 128)), oV 36 6, oP 37 (.bin .mul (iC 7) (.t 36)), oP 38 (.cvInt .u64 (.t 37)), oP 39 (.bin .shl (.t 35) (.t 38)), oP 40 (.bin .add (.t 33) (.t 39)), oV 5 40]) (.seq (.seq (.reg [oV 41 7, oP 42 (.bin .geq (.t 41) (iC 128))]) (.cond (.t 42) (.exit 1) .skip)) (.seq WJ90_bbabklbakbbbba (.seq (.reg [oV 49 5, oK 50 (.buildSlice 1 0 [(.int .u8 0)] []), oV 51 0, oV 52 6, oP 53 (.bin .add (.t 52) (iC 1)), oP 54 (.slice 1 (.t 51) (some (.t 53)) none none), oN 55 (.append 1 1 (.t 50) (.t 54)), oV 2 49, oV 3 55, oC 4 (.int .i64 0)]) .ret))))))) (.reg [oV 12 6, oP 13 (.bin .add (.t 12) (iC 1)), oV 6 13])))
theorem WB90_0_ok : WB90_0.okc = true := by kernel_rfl
def WF90 : AFunc := { nargs := 1, ntmps := 56, code := (.seq (.reg [oC 2 (.int .i64 0), oC 3 (.slice none 1 0 0 true), oC 4 (.int .i64 0)]) (.seq (.reg [oC 5 (.int .i64 0)]) (.seq (.seq (.reg [oC 6 (.int .i64 0)]) (.block 0 (.loop [0, 5, 6] WB90_0))) (.seq (.reg [oC 2 (.int .i64 0), oC 3 (.slice none 1 0 0 true), oC 4 (.int .i64 3)]) .ret)))), results := [(.tmp 2), (.tmp 3), (.tmp 4)] }
theorem WF90_is : cFunc Try.prog 90 [[0, 5, 6]] = some WF90 := by kernel_rfl
theorem WF90_ok : WF90.code.okc = true := by kernel_rfl

/- slices.Grow[[]byte,byte] -/
def WF117 : AFunc := { nargs := 2, ntmps := 27, code := (.seq (.reg [oC 4 (.slice none 1 0 0 true)]) (.seq (.seq (.reg [oV 5 1, oP 6 (.bin .lss (.t 5) (iC 0))]) (.cond (.t 6) (.reg [oN 7 .fail, oZ .fail]) .skip)) (.seq (.seq (.reg [oV 8 1, oV 9 0, oP 10 (.cap (.t 9)), oV 11 0, oP 12 (.len false (.t 11)), oP 13 (.bin .sub (.t 10) (.t 12)), oP 14 (.bin .sub (.t 8) (.t 13)), oV 1 14]) (.seq (.reg [oV 15 1, oP 16 (.bin .gtr (.t 15) (iC 0))]) (.cond (.t 16) (.reg [oV 17 0, oV 18 0, oP 19 (.cap (.t 18)), oP 20 (.slice 1 (.t 17) none (some (.t 19)) none), oV 21 1, oN 22 (.appendZ 1 1 [(.int .u8 0)] (.t 20) (.t 21)), oV 23 0, oP 24 (.len false (.t 23)), oP 25 (.slice 1 (.t 22) none (some (.t 24)) none), oV 0 25]) .skip))) (.seq (.reg [oV 26 0, oV 4 26]) .ret)))), results := [(.tmp 4)] }
theorem WF117_is : cFunc Try.prog 117 [] = some WF117 := by kernel_rfl
theorem WF117_ok : WF117.code.okc = true := by kernel_rfl

/- osmosis/hash.Sum -/
def WB118_1 : ACode := (.seq (.reg [oP 18 (.bin .lss (.t 17) (.t 16))]) (.seq (.cond (.t 18) .skip (.exit 2)) (.seq (.block 3 (.seq (.reg [oP 19 (.idxSlice 1 (.t 15) (.t 17)), oL 20 (.load false 1 (.t 19)), oV 7 20]) (.reg [oV 21 3, oV 22 7, oP 23 (.cvInt .u64 (.t 22)), oP 24 (.bin .xor (.t 21) (.t 23)), oP 25 (.bin .mul (.t 24) (.c (.int .u64 1099511628211))), oV 3 25]))) (.reg [oP 26 (.bin .add (.t 17) (iC 1)), oV 17 26]))))
theorem WB118_1_ok : WB118_1.okc = true := by kernel_rfl
def WB118_0 : ACode := (.seq (.reg [oP 11 (.bin .lss (.t 10) (.t 9))]) (.seq (.cond (.t 11) .skip (.exit 0)) (.seq (.block 1 (.seq (.reg [oP 12 (.idxSlice 1 (.t 8) (.t 10)), oL 13 (.load false 1 (.t 12)), oV 5 13]) (.seq (.seq (.reg [oV 14 5, oK 15 (.strBytes (.t 14)), oP 16 (.len false (.t 15)), oC 17 (.int .i64 0)]) (.block 2 (.loop [3, 8, 9, 10, 15, 16, 17] WB118_1))) (.reg [oV 27 3, oP 28 (.bin .xor (.t 27) (.c (.int .u64 256))), oP 29 (.bin .mul (.t 28) (.c (.int .u64 1099511628211))), oV 3 29])))) (.reg [oP 30 (.bin .add (.t 10) (iC 1)), oV 10 30]))))
theorem WB118_0_ok : WB118_0.okc = true := by kernel_rfl
def WF118 : AFunc := { nargs := 1, ntmps := 32, code := (.seq (.reg [oC 2 (.int .u64 0)]) (.seq (.reg [oC 3 (.int .u64 14695981039346656037)]) (.seq (.seq (.reg [oV 8 0, oP 9 (.len false (.t 8)), oC 10 (.int .i64 0)]) (.block 0 (.loop [3, 8, 9, 10] WB118_0))) (.seq (.reg [oV 31 3, oV 2 31]) .ret)))), results := [(.tmp 2)] }
theorem WF118_is : cFunc Try.prog 118 [[3, 8, 9, 10], [3, 8, 9, 10, 15, 16, 17]] = some WF118 := by kernel_rfl
theorem WF118_ok : WF118.code.okc = true := by kernel_rfl

/- osmosis/nums.Take -/
def WF119 : AFunc := { nargs := 1, ntmps := 20, code := (.seq (.reg [oC 2 (.int .i64 0), oC 3 (.slice none 1 0 0 true), oC 4 (.int .i64 0)]) (.seq (.reg [oV 7 0, oN 8 (.call (.c (.func 133 [])) [(.t 7)]), oV 6 8, oP 9 (.extract (.t 6) 0), oP 10 (.extract (.t 6) 1), oP 11 (.extract (.t 6) 2), oV 2 9, oV 5 10, oV 4 11]) (.seq (.seq (.reg [oV 12 4, oP 13 (.bin .neq (.t 12) (iC 0))]) (.cond (.t 13) (.seq (.reg [oV 14 4, oC 2 (.int .i64 0), oC 3 (.slice none 1 0 0 true), oV 4 14]) .ret) .skip)) (.seq (.reg [oV 15 2, oV 16 0, oV 17 5, oP 18 (.slice 1 (.t 16) (some (.t 17)) none none), oN 19 (.call (.c (.func 134 [])) [(.t 18)]), oV 2 15, oV 3 19, oC 4 (.int .i64 0)]) .ret)))), results := [(.tmp 2), (.tmp 3), (.tmp 4)] }
theorem WF119_is : cFunc Try.prog 119 [] = some WF119 := by kernel_rfl
theorem WF119_ok : WF119.code.okc = true := by kernel_rfl

/- slices.Equal[[]byte,byte] -/
def WB120_0 : ACode := (.seq (.reg [oP 14 (.bin .lss (.t 13) (.t 12))]) (.seq (.cond (.t 14) .skip (.exit 0)) (.seq (.block 1 (.seq (.reg [oV 15 13, oV 5 15]) (.seq (.dreg 0 [oD (oV 16 0) 0 0, oD (oV 17 5) 0 0, oD (oP 18 (.idxSlice 1 (.t 16) (.t 17))) 0 0, oD (oL 19 (.load false 1 (.t 18))) 0 0, oD (oV 20 1) 0 0, oD (oV 21 5) 0 0, oD (oP 22 (.idxSlice 1 (.t 20) (.t 21))) 0 0, oD (oL 23 (.load false 1 (.t 22))) 0 0, oD (oP 24 (.bin .neq (.t 19) (.t 23))) 0 0]) (.cond (.t 24) (.seq (.reg [oC 4 (.bool false)]) .ret) .skip)))) (.reg [oP 25 (.bin .add (.t 13) (iC 1)), oV 13 25]))))
theorem WB120_0_ok : WB120_0.okc = true := by kernel_rfl
def WF120 : AFunc := { nargs := 2, ntmps := 26, code := (.seq (.reg [oC 4 (.bool false)]) (.seq (.seq (.reg [oV 6 0, oP 7 (.len false (.t 6)), oV 8 1, oP 9 (.len false (.t 8)), oP 10 (.bin .neq (.t 7) (.t 9))]) (.cond (.t 10) (.seq (.reg [oC 4 (.bool false)]) .ret) .skip)) (.seq (.seq (.reg [oV 11 0, oP 12 (.len false (.t 11)), oC 13 (.int .i64 0)]) (.block 0 (.loop [0, 1, 12, 13] WB120_0))) (.seq (.reg [oC 4 (.bool true)]) .ret)))), results := [(.tmp 4)] }
theorem WF120_is : cFunc Try.prog 120 [[0, 1, 12, 13]] = some WF120 := by kernel_rfl
theorem WF120_ok : WF120.code.okc = true := by kernel_rfl

/- osmosis/osmosisref1.May -/
def WF121 : AFunc := { nargs := 1, ntmps := 9, code := (.seq (.reg [oC 2 (.bool false)]) (.seq (.reg [oV 3 0, oP 4 (.bin .geq (.t 3) (iC 0)), oV 5 4, oG 5 true (oV 6 0), oG 5 true (oP 7 (.bin .leq (.t 6) (iC 4611686018427387903))), oP 8 (.pick (.t 5) (.t 7) (.c (.bool false))), oV 2 8]) .ret)), results := [(.tmp 2)] }
theorem WF121_is : cFunc Try.prog 121 [] = some WF121 := by kernel_rfl
theorem WF121_ok : WF121.code.okc = true := by kernel_rfl

/- osmosis/osmosisref1.step -/
def WF122 : AFunc := { nargs := 2, ntmps := 9, code := (.seq (.reg [oC 4 (.int .u64 0)]) (.seq (.reg [oV 5 0, oV 6 1, oP 7 (.bin .xor (.t 5) (.t 6)), oP 8 (.bin .mul (.t 7) (.c (.int .u64 1099511628211))), oV 4 8]) .ret)), results := [(.tmp 4)] }
theorem WF122_is : cFunc Try.prog 122 [] = some WF122 := by kernel_rfl
theorem WF122_ok : WF122.code.okc = true := by kernel_rfl

/- osmosis/osmosisref1.late -/
def WB123_0 : ACode := (.seq (.seq (.reg [oV 7 5, oV 8 0, oP 9 (.len false (.t 8)), oP 10 (.bin .lss (.t 7) (.t 9))]) (.cond (.t 10) .skip (.exit 0))) (.seq (.block 1 (.seq (.reg [oV 13 0, oV 14 5, oP 15 (.idxSlice 1 (.t 13) (.t 14)), oL 16 (.load false 1 (.t 15)), oP 17 (.bin .lss (.t 16) (.c (.int .u8 128)))]) (.cond (.t 17) (.seq (.reg [oC 4 (.int .i64 2)]) .ret) .skip))) (.reg [oV 11 5, oP 12 (.bin .add (.t 11) (iC 1)), oV 5 12])))
theorem WB123_0_ok : WB123_0.okc = true := by kernel_rfl
def WF123 : AFunc := { nargs := 2, ntmps := 18, code := (.seq (.reg [oC 4 (.int .i64 0)]) (.seq (.seq (.reg [oV 6 1, oV 5 6]) (.block 0 (.loop [0, 5] WB123_0))) (.seq (.reg [oC 4 (.int .i64 3)]) .ret))), results := [(.tmp 4)] }
theorem WF123_is : cFunc Try.prog 123 [[0, 5]] = some WF123 := by kernel_rfl
theorem WF123_ok : WF123.code.okc = true := by kernel_rfl

/- osmosis/nums.take -/
def WJ133_bbba : ACode := (.seq (.reg [oV 11 5, oP 12 (.bin .geq (.t 11) (iC 9)), oV 13 12, oG 13 false (oV 14 5), oG 13 false (oP 15 (.bin .gtr (.t 14) (iC 0))), oG 13 false (oV 16 15), oG 16 true (oV 17 0), oG 16 true (oV 18 5), oG 16 true (oP 19 (.idxSlice 1 (.t 17) (.t 18))), oG 16 true (oL 20 (.load false 1 (.t 19))), oG 16 true (oP 21 (.bin .eql (.t 20) (.c (.int .u8 0)))), oG 13 false (oP 22 (.pick (.t 16) (.t 21) (.c (.bool false)))), oP 23 (.pick (.t 13) (.c (.bool true)) (.t 22))]) (.cond (.t 23) (.seq (.reg [oC 2 (.int .i64 0), oC 3 (.int .i64 0), oC 4 (.int .i64 2)]) .ret) .skip))
theorem WJ133_bbba_ok : WJ133_bbba.okc = true := by kernel_rfl
def WB133_0 : ACode := (.seq (.seq (.reg [oV 25 6, oP 26 (.bin .geq (.t 25) (iC 0))]) (.cond (.t 26) .skip (.exit 0))) (.seq (.block 1 (.reg [oV 29 2, oP 30 (.bin .shl (.t 29) (.c (.int .u64 7))), oV 31 0, oV 32 6, oP 33 (.idxSlice 1 (.t 31) (.t 32)), oL 34 (.load false 1 (.t 33)), oP 35 (.bin .and (.t 34) (.c (.int .u8 127))), oP 36 (.cvInt .i64 (.t 35)), oP 37 (.bin .or (.t 30) (.t 36)), oV 2 37])) (.reg [oV 27 6, oP 28 (.bin .sub (.t 27) (iC 1)), oV 6 28])))
theorem WB133_0_ok : WB133_0.okc = true := by kernel_rfl
def WJ133_bbbbba : ACode := (.seq (.reg [oV 38 2, oP 39 (.bin .lss (.t 38) (iC 0)), oV 40 39, oG 40 false (oV 41 2), oG 40 false (oP 42 (.bin .gtr (.t 41) (iC 4611686018427387903))), oP 43 (.pick (.t 40) (.c (.bool true)) (.t 42))]) (.cond (.t 43) (.seq (.reg [oC 2 (.int .i64 0), oC 3 (.int .i64 0), oC 4 (.int .i64 2)]) .ret) .skip))
theorem WJ133_bbbbba_ok : WJ133_bbbbba.okc = true := by kernel_rfl
def WF133 : AFunc := { nargs := 1, ntmps := 47, code := (.seq (.reg [oC 2 (.int .i64 0), oC 3 (.int .i64 0), oC 4 (.int .i64 0)]) (.seq (.reg [oV 7 0, oN 8 (.call (.c (.func 139 [])) [(.t 7), (.c (.func 140 []))]), oV 5 8]) (.seq (.seq (.reg [oV 9 5, oP 10 (.bin .lss (.t 9) (iC 0))]) (.cond (.t 10) (.seq (.reg [oC 2 (.int .i64 0), oC 3 (.int .i64 0), oC 4 (.int .i64 3)]) .ret) .skip)) (.seq WJ133_bbba (.seq (.seq (.reg [oV 24 5, oV 6 24]) (.block 0 (.loop [0, 2, 5, 6] WB133_0))) (.seq WJ133_bbbbba (.seq (.reg [oV 44 2, oV 45 5, oP 46 (.bin .add (.t 45) (iC 1)), oV 2 44, oV 3 46, oC 4 (.int .i64 0)]) .ret))))))), results := [(.tmp 2), (.tmp 3), (.tmp 4)] }
theorem WF133_is : cFunc Try.prog 133 [[0, 2, 5, 6]] = some WF133 := by kernel_rfl
theorem WF133_ok : WF133.code.okc = true := by kernel_rfl

/- osmosis/nums.own -/
def WF134 : AFunc := { nargs := 1, ntmps := 6, code := (.seq (.reg [oC 2 (.slice none 1 0 0 true)]) (.seq (.reg [oV 3 0, oN 4 (.call (.c (.func 80 [])) [(.t 3)]), oN 5 (.call (.c (.func 84 [])) [(.t 4)]), oV 2 5]) .ret)), results := [(.tmp 2)] }
theorem WF134_is : cFunc Try.prog 134 [] = some WF134 := by kernel_rfl
theorem WF134_ok : WF134.code.okc = true := by kernel_rfl

/- slices.IndexFunc[[]byte,byte] -/
def WB139_0 : ACode := (.seq (.reg [oP 9 (.bin .lss (.t 8) (.t 7))]) (.seq (.cond (.t 9) .skip (.exit 0)) (.seq (.block 1 (.seq (.reg [oV 10 8, oV 5 10]) (.seq (.reg [oV 11 1, oV 12 0, oV 13 5, oP 14 (.idxSlice 1 (.t 12) (.t 13)), oL 15 (.load false 1 (.t 14)), oN 16 (.call (.t 11) [(.t 15)])]) (.cond (.t 16) (.seq (.reg [oV 17 5, oV 4 17]) .ret) .skip)))) (.reg [oP 18 (.bin .add (.t 8) (iC 1)), oV 8 18]))))
theorem WB139_0_ok : WB139_0.okc = true := by kernel_rfl
def WF139 : AFunc := { nargs := 2, ntmps := 19, code := (.seq (.reg [oC 4 (.int .i64 0)]) (.seq (.seq (.reg [oV 6 0, oP 7 (.len false (.t 6)), oC 8 (.int .i64 0)]) (.block 0 (.loop [0, 1, 7, 8] WB139_0))) (.seq (.reg [oC 4 (.int .i64 (-1))]) .ret))), results := [(.tmp 4)] }
theorem WF139_is : cFunc Try.prog 139 [[0, 1, 7, 8]] = some WF139 := by kernel_rfl
theorem WF139_ok : WF139.code.okc = true := by kernel_rfl

/- osmosis/nums.take$1 -/
def WF140 : AFunc := { nargs := 1, ntmps := 6, code := (.seq (.reg [oC 2 (.bool false)]) (.seq (.reg [oV 3 0, oP 4 (.bin .and (.t 3) (.c (.int .u8 128))), oP 5 (.bin .eql (.t 4) (.c (.int .u8 0))), oV 2 5]) .ret)), results := [(.tmp 2)] }
theorem WF140_is : cFunc Try.prog 140 [] = some WF140 := by kernel_rfl
theorem WF140_ok : WF140.code.okc = true := by kernel_rfl

end Go.Proofs.Ytachollgbplikaa
