import Derived.Test.YtgahmammhclobaaJ5
import Derived.Test.YtgahmammhclobaaProg
set_option linter.all false
set_option maxRecDepth 100000
namespace Go.Proofs.Ytgahmammhclobaa
noncomputable def WF8:AFunc:={ nargs:=2,ntmps:=95,code:=codeOf (cFunc Try.prog 8 []),results:=[(.tmp 4)] }
theorem WF8_is:cFunc Try.prog 8 []=some WF8:=by kernel_rfl
theorem WF8_ok:WF8.code.okc=true:=by kernel_rfl
noncomputable def WJ8_bbba:ACode:=(cA (cB (cB (cB WF8.code))))
theorem WJ8_bbba_ok:WJ8_bbba.okc=true:=by kernel_rfl
noncomputable def WF11:AFunc:={ nargs:=1,ntmps:=66,code:=codeOf (cFunc Try.prog 11 []),results:=[(.cell 2 true 6)] }
theorem WF11_is:cFunc Try.prog 11 []=some WF11:=by kernel_rfl
theorem WF11_ok:WF11.code.okc=true:=by kernel_rfl
noncomputable def WF12:AFunc:={ nargs:=2,ntmps:=29,code:=codeOf (cFunc Try.prog 12 []),results:=[(.tmp 4)] }
theorem WF12_is:cFunc Try.prog 12 []=some WF12:=by kernel_rfl
theorem WF12_ok:WF12.code.okc=true:=by kernel_rfl
noncomputable def WF13:AFunc:={ nargs:=4,ntmps:=113,code:=codeOf (cFunc Try.prog 13 [[2,3,8,9,10]]),results:=[(.cell 8 true 4)] }
theorem WF13_is:cFunc Try.prog 13 [[2,3,8,9,10]]=some WF13:=by kernel_rfl
theorem WF13_ok:WF13.code.okc=true:=by kernel_rfl
noncomputable def WB13_0:ACode:=(cL (cK (cB (cA (cB (cB WF13.code))))))
theorem WB13_0_ok:WB13_0.okc=true:=by kernel_rfl
noncomputable def WJ13_bbabkla:ACode:=(cA (cL (cK (cB (cA (cB (cB WF13.code)))))))
theorem WJ13_bbabkla_ok:WJ13_bbabkla.okc=true:=by kernel_rfl
noncomputable def WF14:AFunc:={ nargs:=2,ntmps:=63,code:=codeOf (cFunc Try.prog 14 [[3,5,24,25,26],[5,45,46,47]]),results:=[(.tmp 4)] }
theorem WF14_is:cFunc Try.prog 14 [[3,5,24,25,26],[5,45,46,47]]=some WF14:=by kernel_rfl
theorem WF14_ok:WF14.code.okc=true:=by kernel_rfl
noncomputable def WB14_0:ACode:=(cL (cK (cB (cA (cB (cB (cB WF14.code)))))))
theorem WB14_0_ok:WB14_0.okc=true:=by kernel_rfl
noncomputable def WB14_1:ACode:=(cL (cK (cB (cA (cB (cB (cB (cB (cB WF14.code)))))))))
theorem WB14_1_ok:WB14_1.okc=true:=by kernel_rfl
noncomputable def WF16:AFunc:={ nargs:=2,ntmps:=73,code:=codeOf (cFunc Try.prog 16 [[2,3,5],[2,3,6]]),results:=[(.tmp 4)] }
theorem WF16_is:cFunc Try.prog 16 [[2,3,5],[2,3,6]]=some WF16:=by kernel_rfl
theorem WF16_ok:WF16.code.okc=true:=by kernel_rfl
noncomputable def WJ16_ba:ACode:=(cA (cB WF16.code))
theorem WJ16_ba_ok:WJ16_ba.okc=true:=by kernel_rfl
noncomputable def WB16_0:ACode:=(cL (cK (cB (cA (cB (cB WF16.code))))))
theorem WB16_0_ok:WB16_0.okc=true:=by kernel_rfl
noncomputable def WB16_1:ACode:=(cL (cK (cB (cA (cB (cB (cB WF16.code)))))))
theorem WB16_1_ok:WB16_1.okc=true:=by kernel_rfl
noncomputable def WF18:AFunc:={ nargs:=1,ntmps:=29,code:=codeOf (cFunc Try.prog 18 []),results:=[(.tmp 2)] }
theorem WF18_is:cFunc Try.prog 18 []=some WF18:=by kernel_rfl
theorem WF18_ok:WF18.code.okc=true:=by kernel_rfl
noncomputable def WF19:AFunc:={ nargs:=1,ntmps:=9,code:=codeOf (cFunc Try.prog 19 []),results:=[(.tmp 2)] }
theorem WF19_is:cFunc Try.prog 19 []=some WF19:=by kernel_rfl
theorem WF19_ok:WF19.code.okc=true:=by kernel_rfl
noncomputable def WF20:AFunc:={ nargs:=1,ntmps:=17,code:=codeOf (cFunc Try.prog 20 []),results:=[(.tmp 2)] }
theorem WF20_is:cFunc Try.prog 20 []=some WF20:=by kernel_rfl
theorem WF20_ok:WF20.code.okc=true:=by kernel_rfl
noncomputable def WF21:AFunc:={ nargs:=1,ntmps:=53,code:=codeOf (cFunc Try.prog 21 []),results:=[(.cell 2 true 6),(.tmp 3),(.tmp 4)] }
theorem WF21_is:cFunc Try.prog 21 []=some WF21:=by kernel_rfl
theorem WF21_ok:WF21.code.okc=true:=by kernel_rfl
noncomputable def WF22:AFunc:={ nargs:=1,ntmps:=80,code:=codeOf (cFunc Try.prog 22 [[2,5,21,22],[2,5,33,34]]),results:=[(.cell 2 true 4),(.tmp 3),(.tmp 4)] }
theorem WF22_is:cFunc Try.prog 22 [[2,5,21,22],[2,5,33,34]]=some WF22:=by kernel_rfl
theorem WF22_ok:WF22.code.okc=true:=by kernel_rfl
noncomputable def WB22_0:ACode:=(cL (cK (cB (cA (cB (cB (cB (cB WF22.code))))))))
theorem WB22_0_ok:WB22_0.okc=true:=by kernel_rfl
noncomputable def WB22_1:ACode:=(cL (cK (cB (cA (cB (cB (cB (cB (cB WF22.code)))))))))
theorem WB22_1_ok:WB22_1.okc=true:=by kernel_rfl
noncomputable def WJ22_bbbbbba:ACode:=(cA (cB (cB (cB (cB (cB (cB WF22.code)))))))
theorem WJ22_bbbbbba_ok:WJ22_bbbbbba.okc=true:=by kernel_rfl
noncomputable def WJ22_bbbbbbaa:ACode:=(cA (cA (cB (cB (cB (cB (cB (cB WF22.code))))))))
theorem WJ22_bbbbbbaa_ok:WJ22_bbbbbbaa.okc=true:=by kernel_rfl
noncomputable def WF23:AFunc:={ nargs:=1,ntmps:=36,code:=codeOf (cFunc Try.prog 23 []),results:=[(.cell 2 true 2),(.tmp 3),(.tmp 4)] }
theorem WF23_is:cFunc Try.prog 23 []=some WF23:=by kernel_rfl
theorem WF23_ok:WF23.code.okc=true:=by kernel_rfl
noncomputable def WF24:AFunc:={ nargs:=2,ntmps:=17,code:=codeOf (cFunc Try.prog 24 []),results:=[(.tmp 4)] }
theorem WF24_is:cFunc Try.prog 24 []=some WF24:=by kernel_rfl
theorem WF24_ok:WF24.code.okc=true:=by kernel_rfl
noncomputable def WF26:AFunc:={ nargs:=2,ntmps:=14,code:=codeOf (cFunc Try.prog 26 []),results:=[(.tmp 4)] }
theorem WF26_is:cFunc Try.prog 26 []=some WF26:=by kernel_rfl
theorem WF26_ok:WF26.code.okc=true:=by kernel_rfl
noncomputable def WF27:AFunc:={ nargs:=1,ntmps:=65,code:=codeOf (cFunc Try.prog 27 []),results:=[(.cell 2 true 15),(.tmp 3)] }
theorem WF27_is:cFunc Try.prog 27 []=some WF27:=by kernel_rfl
theorem WF27_ok:WF27.code.okc=true:=by kernel_rfl
noncomputable def WF28:AFunc:={ nargs:=1,ntmps:=15,code:=codeOf (cFunc Try.prog 28 []),results:=[(.tmp 2)] }
theorem WF28_is:cFunc Try.prog 28 []=some WF28:=by kernel_rfl
theorem WF28_ok:WF28.code.okc=true:=by kernel_rfl
noncomputable def WF29:AFunc:={ nargs:=1,ntmps:=57,code:=codeOf (cFunc Try.prog 29 []),results:=[(.tmp 2)] }
theorem WF29_is:cFunc Try.prog 29 []=some WF29:=by kernel_rfl
theorem WF29_ok:WF29.code.okc=true:=by kernel_rfl
noncomputable def WJ29_bba:ACode:=(cA (cB (cB WF29.code)))
theorem WJ29_bba_ok:WJ29_bba.okc=true:=by kernel_rfl
noncomputable def WF30:AFunc:={ nargs:=2,ntmps:=24,code:=codeOf (cFunc Try.prog 30 []),results:=[(.tmp 4)] }
theorem WF30_is:cFunc Try.prog 30 []=some WF30:=by kernel_rfl
theorem WF30_ok:WF30.code.okc=true:=by kernel_rfl
noncomputable def WF31:AFunc:={ nargs:=0,ntmps:=23,code:=codeOf (cFunc Try.prog 31 []),results:=[(.tmp 0)] }
theorem WF31_is:cFunc Try.prog 31 []=some WF31:=by kernel_rfl
theorem WF31_ok:WF31.code.okc=true:=by kernel_rfl
noncomputable def WF32:AFunc:={ nargs:=2,ntmps:=104,code:=codeOf (cFunc Try.prog 32 []),results:=[(.cell 4 true 15)] }
theorem WF32_is:cFunc Try.prog 32 []=some WF32:=by kernel_rfl
theorem WF32_ok:WF32.code.okc=true:=by kernel_rfl
noncomputable def WJ32_bbba:ACode:=(cA (cB (cB (cB WF32.code))))
theorem WJ32_bbba_ok:WJ32_bbba.okc=true:=by kernel_rfl
noncomputable def WJ32_bbbabkbfbfbfa:ACode:=(cA (cF (cB (cF (cB (cF (cB (cK (cB (cA (cB (cB (cB WF32.code)))))))))))))
theorem WJ32_bbbabkbfbfbfa_ok:WJ32_bbbabkbfbfbfa.okc=true:=by kernel_rfl
noncomputable def WF33:AFunc:={ nargs:=2,ntmps:=52,code:=codeOf (cFunc Try.prog 33 []),results:=[(.tmp 4)] }
theorem WF33_is:cFunc Try.prog 33 []=some WF33:=by kernel_rfl
theorem WF33_ok:WF33.code.okc=true:=by kernel_rfl
noncomputable def WF45:AFunc:={ nargs:=4,ntmps:=34,code:=codeOf (cFunc Try.prog 45 []),results:=[(.cell 8 true 4)] }
theorem WF45_is:cFunc Try.prog 45 []=some WF45:=by kernel_rfl
theorem WF45_ok:WF45.code.okc=true:=by kernel_rfl
noncomputable def WJ45_bba:ACode:=(cA (cB (cB WF45.code)))
theorem WJ45_bba_ok:WJ45_bba.okc=true:=by kernel_rfl
noncomputable def WJ45_bbaa:ACode:=(cA (cA (cB (cB WF45.code))))
theorem WJ45_bbaa_ok:WJ45_bbaa.okc=true:=by kernel_rfl
noncomputable def WF46:AFunc:={ nargs:=2,ntmps:=13,code:=codeOf (cFunc Try.prog 46 []),results:=[(.tmp 4)] }
theorem WF46_is:cFunc Try.prog 46 []=some WF46:=by kernel_rfl
theorem WF46_ok:WF46.code.okc=true:=by kernel_rfl
noncomputable def WF47:AFunc:={ nargs:=1,ntmps:=35,code:=codeOf (cFunc Try.prog 47 []),results:=[(.tmp 2)] }
theorem WF47_is:cFunc Try.prog 47 []=some WF47:=by kernel_rfl
theorem WF47_ok:WF47.code.okc=true:=by kernel_rfl
noncomputable def WJ47_babka:ACode:=(cA (cK (cB (cA (cB WF47.code)))))
theorem WJ47_babka_ok:WJ47_babka.okc=true:=by kernel_rfl
noncomputable def WF48:AFunc:={ nargs:=2,ntmps:=26,code:=codeOf (cFunc Try.prog 48 [[5,10,11,12]]),results:=[(.tmp 4)] }
theorem WF48_is:cFunc Try.prog 48 [[5,10,11,12]]=some WF48:=by kernel_rfl
theorem WF48_ok:WF48.code.okc=true:=by kernel_rfl
noncomputable def WB48_0:ACode:=(cL (cK (cB (cA (cB (cB WF48.code))))))
theorem WB48_0_ok:WB48_0.okc=true:=by kernel_rfl
noncomputable def WF49:AFunc:={ nargs:=2,ntmps:=41,code:=codeOf (cFunc Try.prog 49 [[5,10,11,12],[5,7,10,11,12]]),results:=[(.tmp 4)] }
theorem WF49_is:cFunc Try.prog 49 [[5,10,11,12],[5,7,10,11,12]]=some WF49:=by kernel_rfl
theorem WF49_ok:WF49.code.okc=true:=by kernel_rfl
noncomputable def WB49_0:ACode:=(cL (cK (cB (cA (cB (cB WF49.code))))))
theorem WB49_0_ok:WB49_0.okc=true:=by kernel_rfl
noncomputable def WJ49_bbabklbbakba:ACode:=(cA (cB (cK (cA (cB (cB (cL (cK (cB (cA (cB (cB WF49.code))))))))))))
theorem WJ49_bbabklbbakba_ok:WJ49_bbabklbbakba.okc=true:=by kernel_rfl
noncomputable def WB49_1:ACode:=(cL (cK (cA (cB (cB (cK (cA (cB (cB (cL (cK (cB (cA (cB (cB WF49.code)))))))))))))))
theorem WB49_1_ok:WB49_1.okc=true:=by kernel_rfl
noncomputable def WF50:AFunc:={ nargs:=1,ntmps:=15,code:=codeOf (cFunc Try.prog 50 []),results:=[(.tmp 2)] }
theorem WF50_is:cFunc Try.prog 50 []=some WF50:=by kernel_rfl
theorem WF50_ok:WF50.code.okc=true:=by kernel_rfl
noncomputable def WF51:AFunc:={ nargs:=2,ntmps:=54,code:=codeOf (cFunc Try.prog 51 []),results:=[(.cell 4 true 2),(.tmp 5)] }
theorem WF51_is:cFunc Try.prog 51 []=some WF51:=by kernel_rfl
theorem WF51_ok:WF51.code.okc=true:=by kernel_rfl
noncomputable def WF52:AFunc:={ nargs:=1,ntmps:=26,code:=codeOf (cFunc Try.prog 52 []),results:=[(.cell 2 true 4)] }
theorem WF52_is:cFunc Try.prog 52 []=some WF52:=by kernel_rfl
theorem WF52_ok:WF52.code.okc=true:=by kernel_rfl
noncomputable def WF53:AFunc:={ nargs:=1,ntmps:=7,code:=codeOf (cFunc Try.prog 53 []),results:=[(.tmp 2)] }
theorem WF53_is:cFunc Try.prog 53 []=some WF53:=by kernel_rfl
theorem WF53_ok:WF53.code.okc=true:=by kernel_rfl
noncomputable def WF54:AFunc:={ nargs:=1,ntmps:=53,code:=codeOf (cFunc Try.prog 54 []),results:=[(.tmp 2)] }
theorem WF54_is:cFunc Try.prog 54 []=some WF54:=by kernel_rfl
theorem WF54_ok:WF54.code.okc=true:=by kernel_rfl
noncomputable def WJ54_ba:ACode:=(cA (cB WF54.code))
theorem WJ54_ba_ok:WJ54_ba.okc=true:=by kernel_rfl
noncomputable def WJ54_bba:ACode:=(cA (cB (cB WF54.code)))
theorem WJ54_bba_ok:WJ54_bba.okc=true:=by kernel_rfl
noncomputable def WJ54_bbaka:ACode:=(cA (cK (cA (cB (cB WF54.code)))))
theorem WJ54_bbaka_ok:WJ54_bbaka.okc=true:=by kernel_rfl
noncomputable def WJ54_bbakaa:ACode:=(cA (cA (cK (cA (cB (cB WF54.code))))))
theorem WJ54_bbakaa_ok:WJ54_bbakaa.okc=true:=by kernel_rfl
noncomputable def WF55:AFunc:={ nargs:=1,ntmps:=23,code:=codeOf (cFunc Try.prog 55 []),results:=[(.tmp 2)] }
theorem WF55_is:cFunc Try.prog 55 []=some WF55:=by kernel_rfl
theorem WF55_ok:WF55.code.okc=true:=by kernel_rfl
noncomputable def WF56:AFunc:={ nargs:=1,ntmps:=44,code:=codeOf (cFunc Try.prog 56 []),results:=[(.tmp 2)] }
theorem WF56_is:cFunc Try.prog 56 []=some WF56:=by kernel_rfl
theorem WF56_ok:WF56.code.okc=true:=by kernel_rfl
noncomputable def WJ56_ba:ACode:=(cA (cB WF56.code))
theorem WJ56_ba_ok:WJ56_ba.okc=true:=by kernel_rfl
noncomputable def WJ56_bbba:ACode:=(cA (cB (cB (cB WF56.code))))
theorem WJ56_bbba_ok:WJ56_bbba.okc=true:=by kernel_rfl
noncomputable def WF57:AFunc:={ nargs:=2,ntmps:=40,code:=codeOf (cFunc Try.prog 57 [[0,4,7,12,13]]),results:=[(.tmp 4),(.tmp 5),(.tmp 6)] }
theorem WF57_is:cFunc Try.prog 57 [[0,4,7,12,13]]=some WF57:=by kernel_rfl
theorem WF57_ok:WF57.code.okc=true:=by kernel_rfl
noncomputable def WB57_0:ACode:=(cL (cK (cB (cA (cB (cB WF57.code))))))
theorem WB57_0_ok:WB57_0.okc=true:=by kernel_rfl
noncomputable def WF58:AFunc:={ nargs:=2,ntmps:=27,code:=codeOf (cFunc Try.prog 58 [[0,4,8,9]]),results:=[(.tmp 4),(.tmp 5),(.tmp 6)] }
theorem WF58_is:cFunc Try.prog 58 [[0,4,8,9]]=some WF58:=by kernel_rfl
theorem WF58_ok:WF58.code.okc=true:=by kernel_rfl
noncomputable def WB58_0:ACode:=(cL (cK (cB (cA (cB WF58.code)))))
theorem WB58_0_ok:WB58_0.okc=true:=by kernel_rfl
noncomputable def WF59:AFunc:={ nargs:=2,ntmps:=37,code:=codeOf (cFunc Try.prog 59 []),results:=[(.tmp 4)] }
theorem WF59_is:cFunc Try.prog 59 []=some WF59:=by kernel_rfl
theorem WF59_ok:WF59.code.okc=true:=by kernel_rfl
noncomputable def WF60:AFunc:={ nargs:=2,ntmps:=17,code:=codeOf (cFunc Try.prog 60 []),results:=[(.tmp 4)] }
theorem WF60_is:cFunc Try.prog 60 []=some WF60:=by kernel_rfl
theorem WF60_ok:WF60.code.okc=true:=by kernel_rfl
noncomputable def WF61:AFunc:={ nargs:=1,ntmps:=37,code:=codeOf (cFunc Try.prog 61 []),results:=[(.cell 2 true 2)] }
theorem WF61_is:cFunc Try.prog 61 []=some WF61:=by kernel_rfl
theorem WF61_ok:WF61.code.okc=true:=by kernel_rfl
noncomputable def WF62:AFunc:={ nargs:=1,ntmps:=36,code:=codeOf (cFunc Try.prog 62 []),results:=[(.cell 2 true 4)] }
theorem WF62_is:cFunc Try.prog 62 []=some WF62:=by kernel_rfl
theorem WF62_ok:WF62.code.okc=true:=by kernel_rfl
noncomputable def WF63:AFunc:={ nargs:=1,ntmps:=9,code:=codeOf (cFunc Try.prog 63 []),results:=[(.tmp 2)] }
theorem WF63_is:cFunc Try.prog 63 []=some WF63:=by kernel_rfl
theorem WF63_ok:WF63.code.okc=true:=by kernel_rfl
noncomputable def WF64:AFunc:={ nargs:=1,ntmps:=9,code:=codeOf (cFunc Try.prog 64 []),results:=[(.tmp 2)] }
theorem WF64_is:cFunc Try.prog 64 []=some WF64:=by kernel_rfl
theorem WF64_ok:WF64.code.okc=true:=by kernel_rfl
noncomputable def WF65:AFunc:={ nargs:=1,ntmps:=20,code:=codeOf (cFunc Try.prog 65 []),results:=[(.tmp 2),(.tmp 3),(.tmp 4)] }
theorem WF65_is:cFunc Try.prog 65 []=some WF65:=by kernel_rfl
theorem WF65_ok:WF65.code.okc=true:=by kernel_rfl
noncomputable def WF66:AFunc:={ nargs:=1,ntmps:=37,code:=codeOf (cFunc Try.prog 66 []),results:=[(.tmp 2),(.tmp 3),(.tmp 4)] }
theorem WF66_is:cFunc Try.prog 66 []=some WF66:=by kernel_rfl
theorem WF66_ok:WF66.code.okc=true:=by kernel_rfl
noncomputable def WF67:AFunc:={ nargs:=1,ntmps:=14,code:=codeOf (cFunc Try.prog 67 []),results:=[(.tmp 2)] }
theorem WF67_is:cFunc Try.prog 67 []=some WF67:=by kernel_rfl
theorem WF67_ok:WF67.code.okc=true:=by kernel_rfl
noncomputable def WF68:AFunc:={ nargs:=1,ntmps:=9,code:=codeOf (cFunc Try.prog 68 []),results:=[(.tmp 2)] }
theorem WF68_is:cFunc Try.prog 68 []=some WF68:=by kernel_rfl
theorem WF68_ok:WF68.code.okc=true:=by kernel_rfl
noncomputable def WF69:AFunc:={ nargs:=2,ntmps:=9,code:=codeOf (cFunc Try.prog 69 []),results:=[(.tmp 4)] }
theorem WF69_is:cFunc Try.prog 69 []=some WF69:=by kernel_rfl
theorem WF69_ok:WF69.code.okc=true:=by kernel_rfl
noncomputable def WF70:AFunc:={ nargs:=1,ntmps:=42,code:=codeOf (cFunc Try.prog 70 []),results:=[(.cell 2 true 15)] }
theorem WF70_is:cFunc Try.prog 70 []=some WF70:=by kernel_rfl
theorem WF70_ok:WF70.code.okc=true:=by kernel_rfl
noncomputable def WJ70_babka:ACode:=(cA (cK (cB (cA (cB WF70.code)))))
theorem WJ70_babka_ok:WJ70_babka.okc=true:=by kernel_rfl
noncomputable def WJ70_babkbfbfa:ACode:=(cA (cF (cB (cF (cB (cK (cB (cA (cB WF70.code)))))))))
theorem WJ70_babkbfbfa_ok:WJ70_babkbfbfa.okc=true:=by kernel_rfl
noncomputable def WF71:AFunc:={ nargs:=2,ntmps:=31,code:=codeOf (cFunc Try.prog 71 []),results:=[(.tmp 4)] }
theorem WF71_is:cFunc Try.prog 71 []=some WF71:=by kernel_rfl
theorem WF71_ok:WF71.code.okc=true:=by kernel_rfl
noncomputable def WF72:AFunc:={ nargs:=2,ntmps:=26,code:=codeOf (cFunc Try.prog 72 [[0,1,12,13]]),results:=[(.tmp 4)] }
theorem WF72_is:cFunc Try.prog 72 [[0,1,12,13]]=some WF72:=by kernel_rfl
theorem WF72_ok:WF72.code.okc=true:=by kernel_rfl
noncomputable def WB72_0:ACode:=(cL (cK (cB (cA (cB (cB WF72.code))))))
theorem WB72_0_ok:WB72_0.okc=true:=by kernel_rfl
noncomputable def WF86:AFunc:={ nargs:=1,ntmps:=7,code:=codeOf (cFunc Try.prog 86 []),results:=[(.tmp 2)] }
theorem WF86_is:cFunc Try.prog 86 []=some WF86:=by kernel_rfl
theorem WF86_ok:WF86.code.okc=true:=by kernel_rfl
noncomputable def WF87:AFunc:={ nargs:=1,ntmps:=8,code:=codeOf (cFunc Try.prog 87 []),results:=[(.tmp 2)] }
theorem WF87_is:cFunc Try.prog 87 []=some WF87:=by kernel_rfl
theorem WF87_ok:WF87.code.okc=true:=by kernel_rfl
noncomputable def WF88:AFunc:={ nargs:=1,ntmps:=9,code:=codeOf (cFunc Try.prog 88 []),results:=[(.tmp 2)] }
theorem WF88_is:cFunc Try.prog 88 []=some WF88:=by kernel_rfl
theorem WF88_ok:WF88.code.okc=true:=by kernel_rfl
noncomputable def WF89:AFunc:={ nargs:=1,ntmps:=25,code:=codeOf (cFunc Try.prog 89 [[0,2,3,4]]),results:=[(.cell 2 true 1)] }
theorem WF89_is:cFunc Try.prog 89 [[0,2,3,4]]=some WF89:=by kernel_rfl
theorem WF89_ok:WF89.code.okc=true:=by kernel_rfl
noncomputable def WB89_0:ACode:=(cL (cK (cB (cA (cB (cB WF89.code))))))
theorem WB89_0_ok:WB89_0.okc=true:=by kernel_rfl
noncomputable def WF90:AFunc:={ nargs:=1,ntmps:=18,code:=codeOf (cFunc Try.prog 90 [[0,2,3,4]]),results:=[(.cell 2 true 1)] }
theorem WF90_is:cFunc Try.prog 90 [[0,2,3,4]]=some WF90:=by kernel_rfl
theorem WF90_ok:WF90.code.okc=true:=by kernel_rfl
noncomputable def WB90_0:ACode:=(cL (cK (cB (cA (cB (cB WF90.code))))))
theorem WB90_0_ok:WB90_0.okc=true:=by kernel_rfl
noncomputable def WF91:AFunc:={ nargs:=1,ntmps:=26,code:=codeOf (cFunc Try.prog 91 []),results:=[(.tmp 2)] }
theorem WF91_is:cFunc Try.prog 91 []=some WF91:=by kernel_rfl
theorem WF91_ok:WF91.code.okc=true:=by kernel_rfl
noncomputable def WF92:AFunc:={ nargs:=2,ntmps:=34,code:=codeOf (cFunc Try.prog 92 [[0,1,4,6]]),results:=[(.cell 4 true 4),(.tmp 5)] }
theorem WF92_is:cFunc Try.prog 92 [[0,1,4,6]]=some WF92:=by kernel_rfl
theorem WF92_ok:WF92.code.okc=true:=by kernel_rfl
noncomputable def WB92_0:ACode:=(cL (cK (cB (cA (cB WF92.code)))))
theorem WB92_0_ok:WB92_0.okc=true:=by kernel_rfl
noncomputable def WF93:AFunc:={ nargs:=2,ntmps:=147,code:=codeOf (cFunc Try.prog 93 []),results:=[(.cell 4 true 2)] }
theorem WF93_is:cFunc Try.prog 93 []=some WF93:=by kernel_rfl
theorem WF93_ok:WF93.code.okc=true:=by kernel_rfl
noncomputable def WJ93_bbbabkbfbta:ACode:=(cA (cT (cB (cF (cB (cK (cB (cA (cB (cB (cB WF93.code)))))))))))
theorem WJ93_bbbabkbfbta_ok:WJ93_bbbabkbfbta.okc=true:=by kernel_rfl
noncomputable def WJ93_bbbabkbfbtbbba:ACode:=(cA (cB (cB (cB (cT (cB (cF (cB (cK (cB (cA (cB (cB (cB WF93.code))))))))))))))
theorem WJ93_bbbabkbfbtbbba_ok:WJ93_bbbabkbfbtbbba.okc=true:=by kernel_rfl
noncomputable def WF94:AFunc:={ nargs:=2,ntmps:=96,code:=codeOf (cFunc Try.prog 94 [[0,3,7,8,9]]),results:=[(.tmp 4)] }
theorem WF94_is:cFunc Try.prog 94 [[0,3,7,8,9]]=some WF94:=by kernel_rfl
theorem WF94_ok:WF94.code.okc=true:=by kernel_rfl
noncomputable def WJ94_bba:ACode:=(cA (cB (cB WF94.code)))
theorem WJ94_bba_ok:WJ94_bba.okc=true:=by kernel_rfl
noncomputable def WB94_0:ACode:=(cL (cK (cB (cA (cB (cB (cB (cB (cB WF94.code)))))))))
theorem WB94_0_ok:WB94_0.okc=true:=by kernel_rfl
noncomputable def WJ94_bbbbbabklbaka:ACode:=(cA (cK (cA (cB (cL (cK (cB (cA (cB (cB (cB (cB (cB WF94.code)))))))))))))
theorem WJ94_bbbbbabklbaka_ok:WJ94_bbbbbabklbaka.okc=true:=by kernel_rfl
noncomputable def WJ94_bbbbbabklbakaa:ACode:=(cA (cA (cK (cA (cB (cL (cK (cB (cA (cB (cB (cB (cB (cB WF94.code))))))))))))))
theorem WJ94_bbbbbabklbakaa_ok:WJ94_bbbbbabklbakaa.okc=true:=by kernel_rfl
noncomputable def WJ94_bbbbbba:ACode:=(cA (cB (cB (cB (cB (cB (cB WF94.code)))))))
theorem WJ94_bbbbbba_ok:WJ94_bbbbbba.okc=true:=by kernel_rfl
noncomputable def WF95:AFunc:={ nargs:=1,ntmps:=14,code:=codeOf (cFunc Try.prog 95 []),results:=[(.cell 2 true 19)] }
theorem WF95_is:cFunc Try.prog 95 []=some WF95:=by kernel_rfl
theorem WF95_ok:WF95.code.okc=true:=by kernel_rfl
noncomputable def WF96:AFunc:={ nargs:=2,ntmps:=26,code:=codeOf (cFunc Try.prog 96 [[0,1,12,13]]),results:=[(.tmp 4)] }
theorem WF96_is:cFunc Try.prog 96 [[0,1,12,13]]=some WF96:=by kernel_rfl
theorem WF96_ok:WF96.code.okc=true:=by kernel_rfl
noncomputable def WB96_0:ACode:=(cL (cK (cB (cA (cB (cB WF96.code))))))
theorem WB96_0_ok:WB96_0.okc=true:=by kernel_rfl
noncomputable def WF97:AFunc:={ nargs:=1,ntmps:=9,code:=codeOf (cFunc Try.prog 97 []),results:=[(.tmp 2)] }
theorem WF97_is:cFunc Try.prog 97 []=some WF97:=by kernel_rfl
theorem WF97_ok:WF97.code.okc=true:=by kernel_rfl
noncomputable def WF98:AFunc:={ nargs:=2,ntmps:=26,code:=codeOf (cFunc Try.prog 98 [[0,1,12,13]]),results:=[(.tmp 4)] }
theorem WF98_is:cFunc Try.prog 98 [[0,1,12,13]]=some WF98:=by kernel_rfl
theorem WF98_ok:WF98.code.okc=true:=by kernel_rfl
noncomputable def WB98_0:ACode:=(cL (cK (cB (cA (cB (cB WF98.code))))))
theorem WB98_0_ok:WB98_0.okc=true:=by kernel_rfl
noncomputable def WF99:AFunc:={ nargs:=1,ntmps:=23,code:=codeOf (cFunc Try.prog 99 [[3,9,10]]),results:=[(.tmp 2)] }
theorem WF99_is:cFunc Try.prog 99 [[3,9,10]]=some WF99:=by kernel_rfl
theorem WF99_ok:WF99.code.okc=true:=by kernel_rfl
noncomputable def WB99_0:ACode:=(cL (cK (cB (cA (cB (cB WF99.code))))))
theorem WB99_0_ok:WB99_0.okc=true:=by kernel_rfl
noncomputable def WF100:AFunc:={ nargs:=2,ntmps:=9,code:=codeOf (cFunc Try.prog 100 []),results:=[(.tmp 4)] }
theorem WF100_is:cFunc Try.prog 100 []=some WF100:=by kernel_rfl
theorem WF100_ok:WF100.code.okc=true:=by kernel_rfl
noncomputable def WF101:AFunc:={ nargs:=1,ntmps:=6,code:=codeOf (cFunc Try.prog 101 []),results:=[(.tmp 2)] }
theorem WF101_is:cFunc Try.prog 101 []=some WF101:=by kernel_rfl
theorem WF101_ok:WF101.code.okc=true:=by kernel_rfl
noncomputable def WF102:AFunc:={ nargs:=1,ntmps:=21,code:=codeOf (cFunc Try.prog 102 []),results:=[(.tmp 2)] }
theorem WF102_is:cFunc Try.prog 102 []=some WF102:=by kernel_rfl
theorem WF102_ok:WF102.code.okc=true:=by kernel_rfl
noncomputable def WJ102_babka:ACode:=(cA (cK (cB (cA (cB WF102.code)))))
theorem WJ102_babka_ok:WJ102_babka.okc=true:=by kernel_rfl
noncomputable def WF103:AFunc:={ nargs:=1,ntmps:=47,code:=codeOf (cFunc Try.prog 103 [[0,2,5,6]]),results:=[(.tmp 2),(.tmp 3),(.tmp 4)] }
theorem WF103_is:cFunc Try.prog 103 [[0,2,5,6]]=some WF103:=by kernel_rfl
theorem WF103_ok:WF103.code.okc=true:=by kernel_rfl
noncomputable def WJ103_bbba:ACode:=(cA (cB (cB (cB WF103.code))))
theorem WJ103_bbba_ok:WJ103_bbba.okc=true:=by kernel_rfl
noncomputable def WB103_0:ACode:=(cL (cK (cB (cA (cB (cB (cB (cB WF103.code))))))))
theorem WB103_0_ok:WB103_0.okc=true:=by kernel_rfl
noncomputable def WJ103_bbbbba:ACode:=(cA (cB (cB (cB (cB (cB WF103.code))))))
theorem WJ103_bbbbba_ok:WJ103_bbbbba.okc=true:=by kernel_rfl
noncomputable def WF104:AFunc:={ nargs:=1,ntmps:=9,code:=codeOf (cFunc Try.prog 104 []),results:=[(.tmp 2)] }
theorem WF104_is:cFunc Try.prog 104 []=some WF104:=by kernel_rfl
theorem WF104_ok:WF104.code.okc=true:=by kernel_rfl
noncomputable def WF105:AFunc:={ nargs:=1,ntmps:=6,code:=codeOf (cFunc Try.prog 105 []),results:=[(.tmp 2)] }
theorem WF105_is:cFunc Try.prog 105 []=some WF105:=by kernel_rfl
theorem WF105_ok:WF105.code.okc=true:=by kernel_rfl
noncomputable def WF106:AFunc:={ nargs:=2,ntmps:=19,code:=codeOf (cFunc Try.prog 106 [[0,1,7,8]]),results:=[(.tmp 4)] }
theorem WF106_is:cFunc Try.prog 106 [[0,1,7,8]]=some WF106:=by kernel_rfl
theorem WF106_ok:WF106.code.okc=true:=by kernel_rfl
noncomputable def WB106_0:ACode:=(cL (cK (cB (cA (cB WF106.code)))))
theorem WB106_0_ok:WB106_0.okc=true:=by kernel_rfl
noncomputable def WF112:AFunc:={ nargs:=1,ntmps:=58,code:=codeOf (cFunc Try.prog 112 []),results:=[(.tmp 2)] }
theorem WF112_is:cFunc Try.prog 112 []=some WF112:=by kernel_rfl
theorem WF112_ok:WF112.code.okc=true:=by kernel_rfl
noncomputable def WJ112_ba:ACode:=(cA (cB WF112.code))
theorem WJ112_ba_ok:WJ112_ba.okc=true:=by kernel_rfl
noncomputable def WF113:AFunc:={ nargs:=2,ntmps:=42,code:=codeOf (cFunc Try.prog 113 [[0,1,6]]),results:=[(.tmp 4),(.tmp 5)] }
theorem WF113_is:cFunc Try.prog 113 [[0,1,6]]=some WF113:=by kernel_rfl
theorem WF113_ok:WF113.code.okc=true:=by kernel_rfl
noncomputable def WB113_0:ACode:=(cL (cK (cB (cA (cB WF113.code)))))
theorem WB113_0_ok:WB113_0.okc=true:=by kernel_rfl
noncomputable def WF114:AFunc:={ nargs:=1,ntmps:=20,code:=codeOf (cFunc Try.prog 114 [[2,3,6,7,8]]),results:=[(.cell 2 true 1)] }
theorem WF114_is:cFunc Try.prog 114 [[2,3,6,7,8]]=some WF114:=by kernel_rfl
theorem WF114_ok:WF114.code.okc=true:=by kernel_rfl
noncomputable def WB114_0:ACode:=(cL (cK (cB (cA (cB (cB WF114.code))))))
theorem WB114_0_ok:WB114_0.okc=true:=by kernel_rfl
noncomputable def WF115:AFunc:={ nargs:=1,ntmps:=16,code:=codeOf (cFunc Try.prog 115 [[2,3,6,7,8]]),results:=[(.cell 2 true 16)] }
theorem WF115_is:cFunc Try.prog 115 [[2,3,6,7,8]]=some WF115:=by kernel_rfl
theorem WF115_ok:WF115.code.okc=true:=by kernel_rfl
noncomputable def WB115_0:ACode:=(cL (cK (cB (cA (cB (cB WF115.code))))))
theorem WB115_0_ok:WB115_0.okc=true:=by kernel_rfl
noncomputable def WF116:AFunc:={ nargs:=1,ntmps:=8,code:=codeOf (cFunc Try.prog 116 []),results:=[(.tmp 2)] }
theorem WF116_is:cFunc Try.prog 116 []=some WF116:=by kernel_rfl
theorem WF116_ok:WF116.code.okc=true:=by kernel_rfl
noncomputable def WF117:AFunc:={ nargs:=2,ntmps:=19,code:=codeOf (cFunc Try.prog 117 [[0,1,7,8]]),results:=[(.tmp 4)] }
theorem WF117_is:cFunc Try.prog 117 [[0,1,7,8]]=some WF117:=by kernel_rfl
theorem WF117_ok:WF117.code.okc=true:=by kernel_rfl
noncomputable def WB117_0:ACode:=(cL (cK (cB (cA (cB WF117.code)))))
theorem WB117_0_ok:WB117_0.okc=true:=by kernel_rfl
noncomputable def WF118:AFunc:={ nargs:=2,ntmps:=19,code:=codeOf (cFunc Try.prog 118 [[0,1,7,8]]),results:=[(.tmp 4)] }
theorem WF118_is:cFunc Try.prog 118 [[0,1,7,8]]=some WF118:=by kernel_rfl
theorem WF118_ok:WF118.code.okc=true:=by kernel_rfl
noncomputable def WB118_0:ACode:=(cL (cK (cB (cA (cB WF118.code)))))
theorem WB118_0_ok:WB118_0.okc=true:=by kernel_rfl
noncomputable def WF119:AFunc:={ nargs:=1,ntmps:=6,code:=codeOf (cFunc Try.prog 119 []),results:=[(.tmp 2)] }
theorem WF119_is:cFunc Try.prog 119 []=some WF119:=by kernel_rfl
theorem WF119_ok:WF119.code.okc=true:=by kernel_rfl
noncomputable def WF120:AFunc:={ nargs:=2,ntmps:=65,code:=codeOf (cFunc Try.prog 120 []),results:=[(.cell 4 true 2)] }
theorem WF120_is:cFunc Try.prog 120 []=some WF120:=by kernel_rfl
theorem WF120_ok:WF120.code.okc=true:=by kernel_rfl
noncomputable def WF121:AFunc:={ nargs:=2,ntmps:=38,code:=codeOf (cFunc Try.prog 121 []),results:=[(.tmp 4)] }
theorem WF121_is:cFunc Try.prog 121 []=some WF121:=by kernel_rfl
theorem WF121_ok:WF121.code.okc=true:=by kernel_rfl
noncomputable def WJ121_ba:ACode:=(cA (cB WF121.code))
theorem WJ121_ba_ok:WJ121_ba.okc=true:=by kernel_rfl
noncomputable def WF122:AFunc:={ nargs:=2,ntmps:=14,code:=codeOf (cFunc Try.prog 122 []),results:=[(.tmp 4),(.tmp 5)] }
theorem WF122_is:cFunc Try.prog 122 []=some WF122:=by kernel_rfl
theorem WF122_ok:WF122.code.okc=true:=by kernel_rfl
noncomputable def WF123:AFunc:={ nargs:=4,ntmps:=41,code:=codeOf (cFunc Try.prog 123 []),results:=[(.cell 8 true 2)] }
theorem WF123_is:cFunc Try.prog 123 []=some WF123:=by kernel_rfl
theorem WF123_ok:WF123.code.okc=true:=by kernel_rfl
noncomputable def WF124:AFunc:={ nargs:=3,ntmps:=28,code:=codeOf (cFunc Try.prog 124 []),results:=[(.cell 6 true 2)] }
theorem WF124_is:cFunc Try.prog 124 []=some WF124:=by kernel_rfl
theorem WF124_ok:WF124.code.okc=true:=by kernel_rfl
noncomputable def WF125:AFunc:={ nargs:=3,ntmps:=33,code:=codeOf (cFunc Try.prog 125 []),results:=[(.tmp 6)] }
theorem WF125_is:cFunc Try.prog 125 []=some WF125:=by kernel_rfl
theorem WF125_ok:WF125.code.okc=true:=by kernel_rfl
noncomputable def WF126:AFunc:={ nargs:=3,ntmps:=49,code:=codeOf (cFunc Try.prog 126 [[0,1,2,8,9,10]]),results:=[(.tmp 6),(.tmp 7)] }
theorem WF126_is:cFunc Try.prog 126 [[0,1,2,8,9,10]]=some WF126:=by kernel_rfl
theorem WF126_ok:WF126.code.okc=true:=by kernel_rfl
noncomputable def WB126_0:ACode:=(cL (cK (cA (cB (cB (cB WF126.code))))))
theorem WB126_0_ok:WB126_0.okc=true:=by kernel_rfl
noncomputable def WF127:AFunc:={ nargs:=2,ntmps:=9,code:=codeOf (cFunc Try.prog 127 []),results:=[(.tmp 4)] }
theorem WF127_is:cFunc Try.prog 127 []=some WF127:=by kernel_rfl
theorem WF127_ok:WF127.code.okc=true:=by kernel_rfl
noncomputable def WF128:AFunc:={ nargs:=2,ntmps:=20,code:=codeOf (cFunc Try.prog 128 []),results:=[(.tmp 4)] }
theorem WF128_is:cFunc Try.prog 128 []=some WF128:=by kernel_rfl
theorem WF128_ok:WF128.code.okc=true:=by kernel_rfl
noncomputable def WF129:AFunc:={ nargs:=3,ntmps:=22,code:=codeOf (cFunc Try.prog 129 []),results:=[] }
theorem WF129_is:cFunc Try.prog 129 []=some WF129:=by kernel_rfl
theorem WF129_ok:WF129.code.okc=true:=by kernel_rfl
noncomputable def WF130:AFunc:={ nargs:=3,ntmps:=95,code:=codeOf (cFunc Try.prog 130 []),results:=[(.tmp 6)] }
theorem WF130_is:cFunc Try.prog 130 []=some WF130:=by kernel_rfl
theorem WF130_ok:WF130.code.okc=true:=by kernel_rfl
noncomputable def WF131:AFunc:={ nargs:=1,ntmps:=6,code:=codeOf (cFunc Try.prog 131 []),results:=[(.tmp 2)] }
theorem WF131_is:cFunc Try.prog 131 []=some WF131:=by kernel_rfl
theorem WF131_ok:WF131.code.okc=true:=by kernel_rfl
noncomputable def WF133:AFunc:={ nargs:=2,ntmps:=10,code:=codeOf (cFunc Try.prog 133 []),results:=[] }
theorem WF133_is:cFunc Try.prog 133 []=some WF133:=by kernel_rfl
theorem WF133_ok:WF133.code.okc=true:=by kernel_rfl
noncomputable def WF134:AFunc:={ nargs:=2,ntmps:=14,code:=codeOf (cFunc Try.prog 134 []),results:=[] }
theorem WF134_is:cFunc Try.prog 134 []=some WF134:=by kernel_rfl
theorem WF134_ok:WF134.code.okc=true:=by kernel_rfl
noncomputable def WF135:AFunc:={ nargs:=1,ntmps:=28,code:=codeOf (cFunc Try.prog 135 [[0,2,3]]),results:=[] }
theorem WF135_is:cFunc Try.prog 135 [[0,2,3]]=some WF135:=by kernel_rfl
theorem WF135_ok:WF135.code.okc=true:=by kernel_rfl
noncomputable def WB135_0:ACode:=(cL (cK (cB WF135.code)))
theorem WB135_0_ok:WB135_0.okc=true:=by kernel_rfl
end Go.Proofs.Ytgahmammhclobaa
