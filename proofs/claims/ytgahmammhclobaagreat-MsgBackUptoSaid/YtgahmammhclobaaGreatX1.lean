import Derived.Test.YtgahmammhclobaaGreatJ5
import Derived.Test.YtgahmammhclobaaGreatProg
set_option linter.all false
set_option maxRecDepth 100000
namespace Go.Proofs.YtgahmammhclobaaGreat
noncomputable def WF6:AFunc:={ nargs:=3,ntmps:=94,code:=codeOf (cFunc Tryz.prog 6 []),results:=[(.tmp 6)] }
theorem WF6_is:cFunc Tryz.prog 6 []=some WF6:=by kernel_rfl
theorem WF6_ok:WF6.code.okc=true:=by kernel_rfl
noncomputable def WF11:AFunc:={ nargs:=1,ntmps:=66,code:=codeOf (cFunc Tryz.prog 11 []),results:=[(.cell 2 true 6)] }
theorem WF11_is:cFunc Tryz.prog 11 []=some WF11:=by kernel_rfl
theorem WF11_ok:WF11.code.okc=true:=by kernel_rfl
noncomputable def WF12:AFunc:={ nargs:=2,ntmps:=14,code:=codeOf (cFunc Tryz.prog 12 []),results:=[(.tmp 4)] }
theorem WF12_is:cFunc Tryz.prog 12 []=some WF12:=by kernel_rfl
theorem WF12_ok:WF12.code.okc=true:=by kernel_rfl
noncomputable def WF13:AFunc:={ nargs:=1,ntmps:=7,code:=codeOf (cFunc Tryz.prog 13 []),results:=[(.tmp 2)] }
theorem WF13_is:cFunc Tryz.prog 13 []=some WF13:=by kernel_rfl
theorem WF13_ok:WF13.code.okc=true:=by kernel_rfl
noncomputable def WF14:AFunc:={ nargs:=4,ntmps:=113,code:=codeOf (cFunc Tryz.prog 14 [[2,3,8,9,10]]),results:=[(.cell 8 true 4)] }
theorem WF14_is:cFunc Tryz.prog 14 [[2,3,8,9,10]]=some WF14:=by kernel_rfl
theorem WF14_ok:WF14.code.okc=true:=by kernel_rfl
noncomputable def WB14_0:ACode:=(cL (cK (cB (cA (cB (cB WF14.code))))))
theorem WB14_0_ok:WB14_0.okc=true:=by kernel_rfl
noncomputable def WJ14_bbabkla:ACode:=(cA (cL (cK (cB (cA (cB (cB WF14.code)))))))
theorem WJ14_bbabkla_ok:WJ14_bbabkla.okc=true:=by kernel_rfl
noncomputable def WF18:AFunc:={ nargs:=2,ntmps:=29,code:=codeOf (cFunc Tryz.prog 18 []),results:=[(.tmp 4)] }
theorem WF18_is:cFunc Tryz.prog 18 []=some WF18:=by kernel_rfl
theorem WF18_ok:WF18.code.okc=true:=by kernel_rfl
noncomputable def WF19:AFunc:={ nargs:=2,ntmps:=17,code:=codeOf (cFunc Tryz.prog 19 []),results:=[(.tmp 4)] }
theorem WF19_is:cFunc Tryz.prog 19 []=some WF19:=by kernel_rfl
theorem WF19_ok:WF19.code.okc=true:=by kernel_rfl
noncomputable def WF20:AFunc:={ nargs:=2,ntmps:=63,code:=codeOf (cFunc Tryz.prog 20 [[3,5,24,25,26],[5,45,46,47]]),results:=[(.tmp 4)] }
theorem WF20_is:cFunc Tryz.prog 20 [[3,5,24,25,26],[5,45,46,47]]=some WF20:=by kernel_rfl
theorem WF20_ok:WF20.code.okc=true:=by kernel_rfl
noncomputable def WB20_0:ACode:=(cL (cK (cB (cA (cB (cB (cB WF20.code)))))))
theorem WB20_0_ok:WB20_0.okc=true:=by kernel_rfl
noncomputable def WB20_1:ACode:=(cL (cK (cB (cA (cB (cB (cB (cB (cB WF20.code)))))))))
theorem WB20_1_ok:WB20_1.okc=true:=by kernel_rfl
noncomputable def WF21:AFunc:={ nargs:=1,ntmps:=29,code:=codeOf (cFunc Tryz.prog 21 []),results:=[(.tmp 2)] }
theorem WF21_is:cFunc Tryz.prog 21 []=some WF21:=by kernel_rfl
theorem WF21_ok:WF21.code.okc=true:=by kernel_rfl
noncomputable def WF22:AFunc:={ nargs:=1,ntmps:=9,code:=codeOf (cFunc Tryz.prog 22 []),results:=[(.tmp 2)] }
theorem WF22_is:cFunc Tryz.prog 22 []=some WF22:=by kernel_rfl
theorem WF22_ok:WF22.code.okc=true:=by kernel_rfl
noncomputable def WF23:AFunc:={ nargs:=1,ntmps:=17,code:=codeOf (cFunc Tryz.prog 23 []),results:=[(.tmp 2)] }
theorem WF23_is:cFunc Tryz.prog 23 []=some WF23:=by kernel_rfl
theorem WF23_ok:WF23.code.okc=true:=by kernel_rfl
noncomputable def WF25:AFunc:={ nargs:=1,ntmps:=9,code:=codeOf (cFunc Tryz.prog 25 []),results:=[(.tmp 2)] }
theorem WF25_is:cFunc Tryz.prog 25 []=some WF25:=by kernel_rfl
theorem WF25_ok:WF25.code.okc=true:=by kernel_rfl
noncomputable def WF27:AFunc:={ nargs:=2,ntmps:=15,code:=codeOf (cFunc Tryz.prog 27 []),results:=[(.tmp 4)] }
theorem WF27_is:cFunc Tryz.prog 27 []=some WF27:=by kernel_rfl
theorem WF27_ok:WF27.code.okc=true:=by kernel_rfl
noncomputable def WF29:AFunc:={ nargs:=1,ntmps:=53,code:=codeOf (cFunc Tryz.prog 29 []),results:=[(.cell 2 true 6),(.tmp 3),(.tmp 4)] }
theorem WF29_is:cFunc Tryz.prog 29 []=some WF29:=by kernel_rfl
theorem WF29_ok:WF29.code.okc=true:=by kernel_rfl
noncomputable def WF31:AFunc:={ nargs:=1,ntmps:=36,code:=codeOf (cFunc Tryz.prog 31 []),results:=[(.cell 2 true 2),(.tmp 3),(.tmp 4)] }
theorem WF31_is:cFunc Tryz.prog 31 []=some WF31:=by kernel_rfl
theorem WF31_ok:WF31.code.okc=true:=by kernel_rfl
noncomputable def WF33:AFunc:={ nargs:=1,ntmps:=80,code:=codeOf (cFunc Tryz.prog 33 [[2,5,21,22],[2,5,33,34]]),results:=[(.cell 2 true 4),(.tmp 3),(.tmp 4)] }
theorem WF33_is:cFunc Tryz.prog 33 [[2,5,21,22],[2,5,33,34]]=some WF33:=by kernel_rfl
theorem WF33_ok:WF33.code.okc=true:=by kernel_rfl
noncomputable def WB33_0:ACode:=(cL (cK (cB (cA (cB (cB (cB (cB WF33.code))))))))
theorem WB33_0_ok:WB33_0.okc=true:=by kernel_rfl
noncomputable def WB33_1:ACode:=(cL (cK (cB (cA (cB (cB (cB (cB (cB WF33.code)))))))))
theorem WB33_1_ok:WB33_1.okc=true:=by kernel_rfl
noncomputable def WJ33_bbbbbba:ACode:=(cA (cB (cB (cB (cB (cB (cB WF33.code)))))))
theorem WJ33_bbbbbba_ok:WJ33_bbbbbba.okc=true:=by kernel_rfl
noncomputable def WJ33_bbbbbbaa:ACode:=(cA (cA (cB (cB (cB (cB (cB (cB WF33.code))))))))
theorem WJ33_bbbbbbaa_ok:WJ33_bbbbbbaa.okc=true:=by kernel_rfl
noncomputable def WF34:AFunc:={ nargs:=2,ntmps:=73,code:=codeOf (cFunc Tryz.prog 34 [[2,3,5],[2,3,6]]),results:=[(.tmp 4)] }
theorem WF34_is:cFunc Tryz.prog 34 [[2,3,5],[2,3,6]]=some WF34:=by kernel_rfl
theorem WF34_ok:WF34.code.okc=true:=by kernel_rfl
noncomputable def WJ34_ba:ACode:=(cA (cB WF34.code))
theorem WJ34_ba_ok:WJ34_ba.okc=true:=by kernel_rfl
noncomputable def WB34_0:ACode:=(cL (cK (cB (cA (cB (cB WF34.code))))))
theorem WB34_0_ok:WB34_0.okc=true:=by kernel_rfl
noncomputable def WB34_1:ACode:=(cL (cK (cB (cA (cB (cB (cB WF34.code)))))))
theorem WB34_1_ok:WB34_1.okc=true:=by kernel_rfl
noncomputable def WF39:AFunc:={ nargs:=1,ntmps:=57,code:=codeOf (cFunc Tryz.prog 39 []),results:=[(.tmp 2)] }
theorem WF39_is:cFunc Tryz.prog 39 []=some WF39:=by kernel_rfl
theorem WF39_ok:WF39.code.okc=true:=by kernel_rfl
noncomputable def WJ39_bba:ACode:=(cA (cB (cB WF39.code)))
theorem WJ39_bba_ok:WJ39_bba.okc=true:=by kernel_rfl
noncomputable def WF41:AFunc:={ nargs:=1,ntmps:=15,code:=codeOf (cFunc Tryz.prog 41 []),results:=[(.tmp 2)] }
theorem WF41_is:cFunc Tryz.prog 41 []=some WF41:=by kernel_rfl
theorem WF41_ok:WF41.code.okc=true:=by kernel_rfl
noncomputable def WF42:AFunc:={ nargs:=2,ntmps:=24,code:=codeOf (cFunc Tryz.prog 42 []),results:=[(.tmp 4)] }
theorem WF42_is:cFunc Tryz.prog 42 []=some WF42:=by kernel_rfl
theorem WF42_ok:WF42.code.okc=true:=by kernel_rfl
noncomputable def WF43:AFunc:={ nargs:=2,ntmps:=52,code:=codeOf (cFunc Tryz.prog 43 []),results:=[(.tmp 4)] }
theorem WF43_is:cFunc Tryz.prog 43 []=some WF43:=by kernel_rfl
theorem WF43_ok:WF43.code.okc=true:=by kernel_rfl
noncomputable def WF44:AFunc:={ nargs:=1,ntmps:=65,code:=codeOf (cFunc Tryz.prog 44 []),results:=[(.cell 2 true 15),(.tmp 3)] }
theorem WF44_is:cFunc Tryz.prog 44 []=some WF44:=by kernel_rfl
theorem WF44_ok:WF44.code.okc=true:=by kernel_rfl
noncomputable def WF47:AFunc:={ nargs:=2,ntmps:=154,code:=codeOf (cFunc Tryz.prog 47 [[1,2,4,5,6]]),results:=[(.cell 4 true 23)] }
theorem WF47_is:cFunc Tryz.prog 47 [[1,2,4,5,6]]=some WF47:=by kernel_rfl
theorem WF47_ok:WF47.code.okc=true:=by kernel_rfl
noncomputable def WJ47_bbba:ACode:=(cA (cB (cB (cB WF47.code))))
theorem WJ47_bbba_ok:WJ47_bbba.okc=true:=by kernel_rfl
noncomputable def WB47_0:ACode:=(cL (cK (cB (cA (cB (cB (cB (cB WF47.code))))))))
theorem WB47_0_ok:WB47_0.okc=true:=by kernel_rfl
noncomputable def WJ47_bbbbabkla:ACode:=(cA (cL (cK (cB (cA (cB (cB (cB (cB WF47.code)))))))))
theorem WJ47_bbbbabkla_ok:WJ47_bbbbabkla.okc=true:=by kernel_rfl
noncomputable def WJ47_bbbbba:ACode:=(cA (cB (cB (cB (cB (cB WF47.code))))))
theorem WJ47_bbbbba_ok:WJ47_bbbbba.okc=true:=by kernel_rfl
noncomputable def WJ47_bbbbbaa:ACode:=(cA (cA (cB (cB (cB (cB (cB WF47.code)))))))
theorem WJ47_bbbbbaa_ok:WJ47_bbbbbaa.okc=true:=by kernel_rfl
noncomputable def WF49:AFunc:={ nargs:=1,ntmps:=46,code:=codeOf (cFunc Tryz.prog 49 []),results:=[(.tmp 2)] }
theorem WF49_is:cFunc Tryz.prog 49 []=some WF49:=by kernel_rfl
theorem WF49_ok:WF49.code.okc=true:=by kernel_rfl
noncomputable def WJ49_bba:ACode:=(cA (cB (cB WF49.code)))
theorem WJ49_bba_ok:WJ49_bba.okc=true:=by kernel_rfl
noncomputable def WJ49_bbaka:ACode:=(cA (cK (cA (cB (cB WF49.code)))))
theorem WJ49_bbaka_ok:WJ49_bbaka.okc=true:=by kernel_rfl
noncomputable def WJ49_bbakaa:ACode:=(cA (cA (cK (cA (cB (cB WF49.code))))))
theorem WJ49_bbakaa_ok:WJ49_bbakaa.okc=true:=by kernel_rfl
noncomputable def WF51:AFunc:={ nargs:=1,ntmps:=65,code:=codeOf (cFunc Tryz.prog 51 [[1,3,40,41,42]]),results:=[(.tmp 2)] }
theorem WF51_is:cFunc Tryz.prog 51 [[1,3,40,41,42]]=some WF51:=by kernel_rfl
theorem WF51_ok:WF51.code.okc=true:=by kernel_rfl
noncomputable def WB51_0:ACode:=(cL (cK (cB (cA (cB (cB (cB (cB (cB (cB WF51.code))))))))))
theorem WB51_0_ok:WB51_0.okc=true:=by kernel_rfl
noncomputable def WF52:AFunc:={ nargs:=2,ntmps:=52,code:=codeOf (cFunc Tryz.prog 52 []),results:=[(.tmp 4)] }
theorem WF52_is:cFunc Tryz.prog 52 []=some WF52:=by kernel_rfl
theorem WF52_ok:WF52.code.okc=true:=by kernel_rfl
noncomputable def WF53:AFunc:={ nargs:=2,ntmps:=121,code:=codeOf (cFunc Tryz.prog 53 [[2,3,5]]),results:=[(.tmp 4)] }
theorem WF53_is:cFunc Tryz.prog 53 [[2,3,5]]=some WF53:=by kernel_rfl
theorem WF53_ok:WF53.code.okc=true:=by kernel_rfl
noncomputable def WJ53_ba:ACode:=(cA (cB WF53.code))
theorem WJ53_ba_ok:WJ53_ba.okc=true:=by kernel_rfl
noncomputable def WB53_0:ACode:=(cL (cK (cB (cA (cB (cB WF53.code))))))
theorem WB53_0_ok:WB53_0.okc=true:=by kernel_rfl
noncomputable def WF54:AFunc:={ nargs:=1,ntmps:=43,code:=codeOf (cFunc Tryz.prog 54 []),results:=[(.cell 2 true 23),(.tmp 3)] }
theorem WF54_is:cFunc Tryz.prog 54 []=some WF54:=by kernel_rfl
theorem WF54_ok:WF54.code.okc=true:=by kernel_rfl
noncomputable def WJ54_bbba:ACode:=(cA (cB (cB (cB WF54.code))))
theorem WJ54_bbba_ok:WJ54_bbba.okc=true:=by kernel_rfl
noncomputable def WJ54_bbbaa:ACode:=(cA (cA (cB (cB (cB WF54.code)))))
theorem WJ54_bbbaa_ok:WJ54_bbbaa.okc=true:=by kernel_rfl
noncomputable def WF56:AFunc:={ nargs:=0,ntmps:=29,code:=codeOf (cFunc Tryz.prog 56 []),results:=[(.tmp 0)] }
theorem WF56_is:cFunc Tryz.prog 56 []=some WF56:=by kernel_rfl
theorem WF56_ok:WF56.code.okc=true:=by kernel_rfl
noncomputable def WF69:AFunc:={ nargs:=4,ntmps:=34,code:=codeOf (cFunc Tryz.prog 69 []),results:=[(.cell 8 true 4)] }
theorem WF69_is:cFunc Tryz.prog 69 []=some WF69:=by kernel_rfl
theorem WF69_ok:WF69.code.okc=true:=by kernel_rfl
noncomputable def WJ69_bba:ACode:=(cA (cB (cB WF69.code)))
theorem WJ69_bba_ok:WJ69_bba.okc=true:=by kernel_rfl
noncomputable def WJ69_bbaa:ACode:=(cA (cA (cB (cB WF69.code))))
theorem WJ69_bbaa_ok:WJ69_bbaa.okc=true:=by kernel_rfl
noncomputable def WF70:AFunc:={ nargs:=2,ntmps:=13,code:=codeOf (cFunc Tryz.prog 70 []),results:=[(.tmp 4)] }
theorem WF70_is:cFunc Tryz.prog 70 []=some WF70:=by kernel_rfl
theorem WF70_ok:WF70.code.okc=true:=by kernel_rfl
noncomputable def WF71:AFunc:={ nargs:=1,ntmps:=35,code:=codeOf (cFunc Tryz.prog 71 []),results:=[(.tmp 2)] }
theorem WF71_is:cFunc Tryz.prog 71 []=some WF71:=by kernel_rfl
theorem WF71_ok:WF71.code.okc=true:=by kernel_rfl
noncomputable def WJ71_babka:ACode:=(cA (cK (cB (cA (cB WF71.code)))))
theorem WJ71_babka_ok:WJ71_babka.okc=true:=by kernel_rfl
noncomputable def WF72:AFunc:={ nargs:=1,ntmps:=15,code:=codeOf (cFunc Tryz.prog 72 []),results:=[(.tmp 2)] }
theorem WF72_is:cFunc Tryz.prog 72 []=some WF72:=by kernel_rfl
theorem WF72_ok:WF72.code.okc=true:=by kernel_rfl
noncomputable def WF73:AFunc:={ nargs:=2,ntmps:=54,code:=codeOf (cFunc Tryz.prog 73 []),results:=[(.cell 4 true 2),(.tmp 5)] }
theorem WF73_is:cFunc Tryz.prog 73 []=some WF73:=by kernel_rfl
theorem WF73_ok:WF73.code.okc=true:=by kernel_rfl
noncomputable def WF74:AFunc:={ nargs:=1,ntmps:=26,code:=codeOf (cFunc Tryz.prog 74 []),results:=[(.cell 2 true 4)] }
theorem WF74_is:cFunc Tryz.prog 74 []=some WF74:=by kernel_rfl
theorem WF74_ok:WF74.code.okc=true:=by kernel_rfl
noncomputable def WF75:AFunc:={ nargs:=1,ntmps:=7,code:=codeOf (cFunc Tryz.prog 75 []),results:=[(.tmp 2)] }
theorem WF75_is:cFunc Tryz.prog 75 []=some WF75:=by kernel_rfl
theorem WF75_ok:WF75.code.okc=true:=by kernel_rfl
noncomputable def WF78:AFunc:={ nargs:=2,ntmps:=26,code:=codeOf (cFunc Tryz.prog 78 [[5,10,11,12]]),results:=[(.tmp 4)] }
theorem WF78_is:cFunc Tryz.prog 78 [[5,10,11,12]]=some WF78:=by kernel_rfl
theorem WF78_ok:WF78.code.okc=true:=by kernel_rfl
noncomputable def WB78_0:ACode:=(cL (cK (cB (cA (cB (cB WF78.code))))))
theorem WB78_0_ok:WB78_0.okc=true:=by kernel_rfl
noncomputable def WF79:AFunc:={ nargs:=2,ntmps:=41,code:=codeOf (cFunc Tryz.prog 79 [[5,10,11,12],[5,7,10,11,12]]),results:=[(.tmp 4)] }
theorem WF79_is:cFunc Tryz.prog 79 [[5,10,11,12],[5,7,10,11,12]]=some WF79:=by kernel_rfl
theorem WF79_ok:WF79.code.okc=true:=by kernel_rfl
noncomputable def WB79_0:ACode:=(cL (cK (cB (cA (cB (cB WF79.code))))))
theorem WB79_0_ok:WB79_0.okc=true:=by kernel_rfl
noncomputable def WJ79_bbabklbbakba:ACode:=(cA (cB (cK (cA (cB (cB (cL (cK (cB (cA (cB (cB WF79.code))))))))))))
theorem WJ79_bbabklbbakba_ok:WJ79_bbabklbbakba.okc=true:=by kernel_rfl
noncomputable def WB79_1:ACode:=(cL (cK (cA (cB (cB (cK (cA (cB (cB (cL (cK (cB (cA (cB (cB WF79.code)))))))))))))))
theorem WB79_1_ok:WB79_1.okc=true:=by kernel_rfl
noncomputable def WF80:AFunc:={ nargs:=1,ntmps:=53,code:=codeOf (cFunc Tryz.prog 80 []),results:=[(.tmp 2)] }
theorem WF80_is:cFunc Tryz.prog 80 []=some WF80:=by kernel_rfl
theorem WF80_ok:WF80.code.okc=true:=by kernel_rfl
noncomputable def WJ80_ba:ACode:=(cA (cB WF80.code))
theorem WJ80_ba_ok:WJ80_ba.okc=true:=by kernel_rfl
noncomputable def WJ80_bba:ACode:=(cA (cB (cB WF80.code)))
theorem WJ80_bba_ok:WJ80_bba.okc=true:=by kernel_rfl
noncomputable def WJ80_bbaka:ACode:=(cA (cK (cA (cB (cB WF80.code)))))
theorem WJ80_bbaka_ok:WJ80_bbaka.okc=true:=by kernel_rfl
noncomputable def WJ80_bbakaa:ACode:=(cA (cA (cK (cA (cB (cB WF80.code))))))
theorem WJ80_bbakaa_ok:WJ80_bbakaa.okc=true:=by kernel_rfl
noncomputable def WF81:AFunc:={ nargs:=1,ntmps:=6,code:=codeOf (cFunc Tryz.prog 81 []),results:=[(.tmp 2)] }
theorem WF81_is:cFunc Tryz.prog 81 []=some WF81:=by kernel_rfl
theorem WF81_ok:WF81.code.okc=true:=by kernel_rfl
noncomputable def WF82:AFunc:={ nargs:=1,ntmps:=26,code:=codeOf (cFunc Tryz.prog 82 []),results:=[(.tmp 2)] }
theorem WF82_is:cFunc Tryz.prog 82 []=some WF82:=by kernel_rfl
theorem WF82_ok:WF82.code.okc=true:=by kernel_rfl
noncomputable def WF83:AFunc:={ nargs:=1,ntmps:=23,code:=codeOf (cFunc Tryz.prog 83 []),results:=[(.tmp 2)] }
theorem WF83_is:cFunc Tryz.prog 83 []=some WF83:=by kernel_rfl
theorem WF83_ok:WF83.code.okc=true:=by kernel_rfl
noncomputable def WF84:AFunc:={ nargs:=1,ntmps:=44,code:=codeOf (cFunc Tryz.prog 84 []),results:=[(.tmp 2)] }
theorem WF84_is:cFunc Tryz.prog 84 []=some WF84:=by kernel_rfl
theorem WF84_ok:WF84.code.okc=true:=by kernel_rfl
noncomputable def WJ84_ba:ACode:=(cA (cB WF84.code))
theorem WJ84_ba_ok:WJ84_ba.okc=true:=by kernel_rfl
noncomputable def WJ84_bbba:ACode:=(cA (cB (cB (cB WF84.code))))
theorem WJ84_bbba_ok:WJ84_bbba.okc=true:=by kernel_rfl
noncomputable def WF89:AFunc:={ nargs:=2,ntmps:=40,code:=codeOf (cFunc Tryz.prog 89 [[0,4,7,12,13]]),results:=[(.tmp 4),(.tmp 5),(.tmp 6)] }
theorem WF89_is:cFunc Tryz.prog 89 [[0,4,7,12,13]]=some WF89:=by kernel_rfl
theorem WF89_ok:WF89.code.okc=true:=by kernel_rfl
noncomputable def WB89_0:ACode:=(cL (cK (cB (cA (cB (cB WF89.code))))))
theorem WB89_0_ok:WB89_0.okc=true:=by kernel_rfl
noncomputable def WF90:AFunc:={ nargs:=2,ntmps:=27,code:=codeOf (cFunc Tryz.prog 90 [[0,4,8,9]]),results:=[(.tmp 4),(.tmp 5),(.tmp 6)] }
theorem WF90_is:cFunc Tryz.prog 90 [[0,4,8,9]]=some WF90:=by kernel_rfl
theorem WF90_ok:WF90.code.okc=true:=by kernel_rfl
noncomputable def WB90_0:ACode:=(cL (cK (cB (cA (cB WF90.code)))))
theorem WB90_0_ok:WB90_0.okc=true:=by kernel_rfl
noncomputable def WF91:AFunc:={ nargs:=1,ntmps:=20,code:=codeOf (cFunc Tryz.prog 91 []),results:=[(.tmp 2),(.tmp 3),(.tmp 4)] }
theorem WF91_is:cFunc Tryz.prog 91 []=some WF91:=by kernel_rfl
theorem WF91_ok:WF91.code.okc=true:=by kernel_rfl
noncomputable def WF92:AFunc:={ nargs:=1,ntmps:=37,code:=codeOf (cFunc Tryz.prog 92 []),results:=[(.tmp 2),(.tmp 3),(.tmp 4)] }
theorem WF92_is:cFunc Tryz.prog 92 []=some WF92:=by kernel_rfl
theorem WF92_ok:WF92.code.okc=true:=by kernel_rfl
noncomputable def WF94:AFunc:={ nargs:=2,ntmps:=37,code:=codeOf (cFunc Tryz.prog 94 []),results:=[(.tmp 4)] }
theorem WF94_is:cFunc Tryz.prog 94 []=some WF94:=by kernel_rfl
theorem WF94_ok:WF94.code.okc=true:=by kernel_rfl
noncomputable def WF95:AFunc:={ nargs:=2,ntmps:=17,code:=codeOf (cFunc Tryz.prog 95 []),results:=[(.tmp 4)] }
theorem WF95_is:cFunc Tryz.prog 95 []=some WF95:=by kernel_rfl
theorem WF95_ok:WF95.code.okc=true:=by kernel_rfl
noncomputable def WF96:AFunc:={ nargs:=1,ntmps:=37,code:=codeOf (cFunc Tryz.prog 96 []),results:=[(.cell 2 true 2)] }
theorem WF96_is:cFunc Tryz.prog 96 []=some WF96:=by kernel_rfl
theorem WF96_ok:WF96.code.okc=true:=by kernel_rfl
noncomputable def WF97:AFunc:={ nargs:=1,ntmps:=36,code:=codeOf (cFunc Tryz.prog 97 []),results:=[(.cell 2 true 4)] }
theorem WF97_is:cFunc Tryz.prog 97 []=some WF97:=by kernel_rfl
theorem WF97_ok:WF97.code.okc=true:=by kernel_rfl
noncomputable def WF98:AFunc:={ nargs:=1,ntmps:=9,code:=codeOf (cFunc Tryz.prog 98 []),results:=[(.tmp 2)] }
theorem WF98_is:cFunc Tryz.prog 98 []=some WF98:=by kernel_rfl
theorem WF98_ok:WF98.code.okc=true:=by kernel_rfl
noncomputable def WF99:AFunc:={ nargs:=1,ntmps:=9,code:=codeOf (cFunc Tryz.prog 99 []),results:=[(.tmp 2)] }
theorem WF99_is:cFunc Tryz.prog 99 []=some WF99:=by kernel_rfl
theorem WF99_ok:WF99.code.okc=true:=by kernel_rfl
noncomputable def WF100:AFunc:={ nargs:=1,ntmps:=9,code:=codeOf (cFunc Tryz.prog 100 []),results:=[(.tmp 2)] }
theorem WF100_is:cFunc Tryz.prog 100 []=some WF100:=by kernel_rfl
theorem WF100_ok:WF100.code.okc=true:=by kernel_rfl
noncomputable def WF101:AFunc:={ nargs:=2,ntmps:=9,code:=codeOf (cFunc Tryz.prog 101 []),results:=[(.tmp 4)] }
theorem WF101_is:cFunc Tryz.prog 101 []=some WF101:=by kernel_rfl
theorem WF101_ok:WF101.code.okc=true:=by kernel_rfl
noncomputable def WF102:AFunc:={ nargs:=1,ntmps:=14,code:=codeOf (cFunc Tryz.prog 102 []),results:=[(.tmp 2)] }
theorem WF102_is:cFunc Tryz.prog 102 []=some WF102:=by kernel_rfl
theorem WF102_ok:WF102.code.okc=true:=by kernel_rfl
noncomputable def WF103:AFunc:={ nargs:=1,ntmps:=42,code:=codeOf (cFunc Tryz.prog 103 []),results:=[(.cell 2 true 15)] }
theorem WF103_is:cFunc Tryz.prog 103 []=some WF103:=by kernel_rfl
theorem WF103_ok:WF103.code.okc=true:=by kernel_rfl
noncomputable def WJ103_babka:ACode:=(cA (cK (cB (cA (cB WF103.code)))))
theorem WJ103_babka_ok:WJ103_babka.okc=true:=by kernel_rfl
noncomputable def WJ103_babkbfbfa:ACode:=(cA (cF (cB (cF (cB (cK (cB (cA (cB WF103.code)))))))))
theorem WJ103_babkbfbfa_ok:WJ103_babkbfbfa.okc=true:=by kernel_rfl
noncomputable def WF104:AFunc:={ nargs:=2,ntmps:=31,code:=codeOf (cFunc Tryz.prog 104 []),results:=[(.tmp 4)] }
theorem WF104_is:cFunc Tryz.prog 104 []=some WF104:=by kernel_rfl
theorem WF104_ok:WF104.code.okc=true:=by kernel_rfl
noncomputable def WF106:AFunc:={ nargs:=2,ntmps:=26,code:=codeOf (cFunc Tryz.prog 106 [[0,1,12,13]]),results:=[(.tmp 4)] }
theorem WF106_is:cFunc Tryz.prog 106 [[0,1,12,13]]=some WF106:=by kernel_rfl
theorem WF106_ok:WF106.code.okc=true:=by kernel_rfl
noncomputable def WB106_0:ACode:=(cL (cK (cB (cA (cB (cB WF106.code))))))
theorem WB106_0_ok:WB106_0.okc=true:=by kernel_rfl
noncomputable def WF107:AFunc:={ nargs:=2,ntmps:=27,code:=codeOf (cFunc Tryz.prog 107 [[0,1,5,6]]),results:=[(.tmp 4)] }
theorem WF107_is:cFunc Tryz.prog 107 [[0,1,5,6]]=some WF107:=by kernel_rfl
theorem WF107_ok:WF107.code.okc=true:=by kernel_rfl
noncomputable def WB107_0:ACode:=(cL (cK (cB (cA (cB (cB WF107.code))))))
theorem WB107_0_ok:WB107_0.okc=true:=by kernel_rfl
noncomputable def WJ107_bbabkla:ACode:=(cA (cL (cK (cB (cA (cB (cB WF107.code)))))))
theorem WJ107_bbabkla_ok:WJ107_bbabkla.okc=true:=by kernel_rfl
noncomputable def WF109:AFunc:={ nargs:=1,ntmps:=6,code:=codeOf (cFunc Tryz.prog 109 []),results:=[(.tmp 2)] }
theorem WF109_is:cFunc Tryz.prog 109 []=some WF109:=by kernel_rfl
theorem WF109_ok:WF109.code.okc=true:=by kernel_rfl
noncomputable def WF110:AFunc:={ nargs:=1,ntmps:=9,code:=codeOf (cFunc Tryz.prog 110 []),results:=[(.tmp 2)] }
theorem WF110_is:cFunc Tryz.prog 110 []=some WF110:=by kernel_rfl
theorem WF110_ok:WF110.code.okc=true:=by kernel_rfl
noncomputable def WF111:AFunc:={ nargs:=1,ntmps:=20,code:=codeOf (cFunc Tryz.prog 111 []),results:=[(.tmp 2)] }
theorem WF111_is:cFunc Tryz.prog 111 []=some WF111:=by kernel_rfl
theorem WF111_ok:WF111.code.okc=true:=by kernel_rfl
noncomputable def WF112:AFunc:={ nargs:=2,ntmps:=9,code:=codeOf (cFunc Tryz.prog 112 []),results:=[(.tmp 4)] }
theorem WF112_is:cFunc Tryz.prog 112 []=some WF112:=by kernel_rfl
theorem WF112_ok:WF112.code.okc=true:=by kernel_rfl
noncomputable def WF113:AFunc:={ nargs:=1,ntmps:=29,code:=codeOf (cFunc Tryz.prog 113 []),results:=[(.tmp 2)] }
theorem WF113_is:cFunc Tryz.prog 113 []=some WF113:=by kernel_rfl
theorem WF113_ok:WF113.code.okc=true:=by kernel_rfl
noncomputable def WF114:AFunc:={ nargs:=1,ntmps:=4,code:=codeOf (cFunc Tryz.prog 114 []),results:=[(.tmp 2)] }
theorem WF114_is:cFunc Tryz.prog 114 []=some WF114:=by kernel_rfl
theorem WF114_ok:WF114.code.okc=true:=by kernel_rfl
noncomputable def WF115:AFunc:={ nargs:=2,ntmps:=26,code:=codeOf (cFunc Tryz.prog 115 [[0,1,12,13]]),results:=[(.tmp 4)] }
theorem WF115_is:cFunc Tryz.prog 115 [[0,1,12,13]]=some WF115:=by kernel_rfl
theorem WF115_ok:WF115.code.okc=true:=by kernel_rfl
noncomputable def WB115_0:ACode:=(cL (cK (cB (cA (cB (cB WF115.code))))))
theorem WB115_0_ok:WB115_0.okc=true:=by kernel_rfl
noncomputable def WF116:AFunc:={ nargs:=2,ntmps:=31,code:=codeOf (cFunc Tryz.prog 116 []),results:=[(.tmp 4)] }
theorem WF116_is:cFunc Tryz.prog 116 []=some WF116:=by kernel_rfl
theorem WF116_ok:WF116.code.okc=true:=by kernel_rfl
noncomputable def WF117:AFunc:={ nargs:=2,ntmps:=26,code:=codeOf (cFunc Tryz.prog 117 [[0,1,5]]),results:=[(.tmp 4)] }
theorem WF117_is:cFunc Tryz.prog 117 [[0,1,5]]=some WF117:=by kernel_rfl
theorem WF117_ok:WF117.code.okc=true:=by kernel_rfl
noncomputable def WB117_0:ACode:=(cL (cK (cB (cA (cB (cB WF117.code))))))
theorem WB117_0_ok:WB117_0.okc=true:=by kernel_rfl
noncomputable def WF118:AFunc:={ nargs:=1,ntmps:=128,code:=codeOf (cFunc Tryz.prog 118 [[0,2,91,92]]),results:=[(.cell 2 true 23)] }
theorem WF118_is:cFunc Tryz.prog 118 [[0,2,91,92]]=some WF118:=by kernel_rfl
theorem WF118_ok:WF118.code.okc=true:=by kernel_rfl
noncomputable def WJ118_bbbba:ACode:=(cA (cB (cB (cB (cB WF118.code)))))
theorem WJ118_bbbba_ok:WJ118_bbbba.okc=true:=by kernel_rfl
noncomputable def WJ118_bbbbba:ACode:=(cA (cB (cB (cB (cB (cB WF118.code))))))
theorem WJ118_bbbbba_ok:WJ118_bbbbba.okc=true:=by kernel_rfl
noncomputable def WB118_0:ACode:=(cL (cK (cB (cA (cB (cB (cB (cB (cB (cB (cB WF118.code)))))))))))
theorem WB118_0_ok:WB118_0.okc=true:=by kernel_rfl
noncomputable def WF124:AFunc:={ nargs:=1,ntmps:=25,code:=codeOf (cFunc Tryz.prog 124 [[0,2,3,4]]),results:=[(.cell 2 true 1)] }
theorem WF124_is:cFunc Tryz.prog 124 [[0,2,3,4]]=some WF124:=by kernel_rfl
theorem WF124_ok:WF124.code.okc=true:=by kernel_rfl
noncomputable def WB124_0:ACode:=(cL (cK (cB (cA (cB (cB WF124.code))))))
theorem WB124_0_ok:WB124_0.okc=true:=by kernel_rfl
noncomputable def WF125:AFunc:={ nargs:=1,ntmps:=18,code:=codeOf (cFunc Tryz.prog 125 [[0,2,3,4]]),results:=[(.cell 2 true 1)] }
theorem WF125_is:cFunc Tryz.prog 125 [[0,2,3,4]]=some WF125:=by kernel_rfl
theorem WF125_ok:WF125.code.okc=true:=by kernel_rfl
noncomputable def WB125_0:ACode:=(cL (cK (cB (cA (cB (cB WF125.code))))))
theorem WB125_0_ok:WB125_0.okc=true:=by kernel_rfl
noncomputable def WF126:AFunc:={ nargs:=2,ntmps:=34,code:=codeOf (cFunc Tryz.prog 126 [[0,1,4,6]]),results:=[(.cell 4 true 4),(.tmp 5)] }
theorem WF126_is:cFunc Tryz.prog 126 [[0,1,4,6]]=some WF126:=by kernel_rfl
theorem WF126_ok:WF126.code.okc=true:=by kernel_rfl
noncomputable def WB126_0:ACode:=(cL (cK (cB (cA (cB WF126.code)))))
theorem WB126_0_ok:WB126_0.okc=true:=by kernel_rfl
noncomputable def WF127:AFunc:={ nargs:=2,ntmps:=147,code:=codeOf (cFunc Tryz.prog 127 []),results:=[(.cell 4 true 2)] }
theorem WF127_is:cFunc Tryz.prog 127 []=some WF127:=by kernel_rfl
theorem WF127_ok:WF127.code.okc=true:=by kernel_rfl
noncomputable def WJ127_bbbabkbfbta:ACode:=(cA (cT (cB (cF (cB (cK (cB (cA (cB (cB (cB WF127.code)))))))))))
theorem WJ127_bbbabkbfbta_ok:WJ127_bbbabkbfbta.okc=true:=by kernel_rfl
noncomputable def WJ127_bbbabkbfbtbbba:ACode:=(cA (cB (cB (cB (cT (cB (cF (cB (cK (cB (cA (cB (cB (cB WF127.code))))))))))))))
theorem WJ127_bbbabkbfbtbbba_ok:WJ127_bbbabkbfbtbbba.okc=true:=by kernel_rfl
noncomputable def WF128:AFunc:={ nargs:=2,ntmps:=96,code:=codeOf (cFunc Tryz.prog 128 [[0,3,7,8,9]]),results:=[(.tmp 4)] }
theorem WF128_is:cFunc Tryz.prog 128 [[0,3,7,8,9]]=some WF128:=by kernel_rfl
theorem WF128_ok:WF128.code.okc=true:=by kernel_rfl
noncomputable def WJ128_bba:ACode:=(cA (cB (cB WF128.code)))
theorem WJ128_bba_ok:WJ128_bba.okc=true:=by kernel_rfl
noncomputable def WB128_0:ACode:=(cL (cK (cB (cA (cB (cB (cB (cB (cB WF128.code)))))))))
theorem WB128_0_ok:WB128_0.okc=true:=by kernel_rfl
noncomputable def WJ128_bbbbbabklbaka:ACode:=(cA (cK (cA (cB (cL (cK (cB (cA (cB (cB (cB (cB (cB WF128.code)))))))))))))
theorem WJ128_bbbbbabklbaka_ok:WJ128_bbbbbabklbaka.okc=true:=by kernel_rfl
noncomputable def WJ128_bbbbbabklbakaa:ACode:=(cA (cA (cK (cA (cB (cL (cK (cB (cA (cB (cB (cB (cB (cB WF128.code))))))))))))))
theorem WJ128_bbbbbabklbakaa_ok:WJ128_bbbbbabklbakaa.okc=true:=by kernel_rfl
noncomputable def WJ128_bbbbbba:ACode:=(cA (cB (cB (cB (cB (cB (cB WF128.code)))))))
theorem WJ128_bbbbbba_ok:WJ128_bbbbbba.okc=true:=by kernel_rfl
noncomputable def WF129:AFunc:={ nargs:=1,ntmps:=8,code:=codeOf (cFunc Tryz.prog 129 []),results:=[(.tmp 2)] }
theorem WF129_is:cFunc Tryz.prog 129 []=some WF129:=by kernel_rfl
theorem WF129_ok:WF129.code.okc=true:=by kernel_rfl
noncomputable def WF130:AFunc:={ nargs:=1,ntmps:=9,code:=codeOf (cFunc Tryz.prog 130 []),results:=[(.tmp 2)] }
theorem WF130_is:cFunc Tryz.prog 130 []=some WF130:=by kernel_rfl
theorem WF130_ok:WF130.code.okc=true:=by kernel_rfl
noncomputable def WF131:AFunc:={ nargs:=1,ntmps:=58,code:=codeOf (cFunc Tryz.prog 131 []),results:=[(.tmp 2)] }
theorem WF131_is:cFunc Tryz.prog 131 []=some WF131:=by kernel_rfl
theorem WF131_ok:WF131.code.okc=true:=by kernel_rfl
noncomputable def WJ131_ba:ACode:=(cA (cB WF131.code))
theorem WJ131_ba_ok:WJ131_ba.okc=true:=by kernel_rfl
noncomputable def WF132:AFunc:={ nargs:=1,ntmps:=14,code:=codeOf (cFunc Tryz.prog 132 []),results:=[(.cell 2 true 19)] }
theorem WF132_is:cFunc Tryz.prog 132 []=some WF132:=by kernel_rfl
theorem WF132_ok:WF132.code.okc=true:=by kernel_rfl
noncomputable def WF133:AFunc:={ nargs:=2,ntmps:=26,code:=codeOf (cFunc Tryz.prog 133 [[0,1,12,13]]),results:=[(.tmp 4)] }
theorem WF133_is:cFunc Tryz.prog 133 [[0,1,12,13]]=some WF133:=by kernel_rfl
theorem WF133_ok:WF133.code.okc=true:=by kernel_rfl
noncomputable def WB133_0:ACode:=(cL (cK (cB (cA (cB (cB WF133.code))))))
theorem WB133_0_ok:WB133_0.okc=true:=by kernel_rfl
noncomputable def WF134:AFunc:={ nargs:=1,ntmps:=9,code:=codeOf (cFunc Tryz.prog 134 []),results:=[(.tmp 2)] }
theorem WF134_is:cFunc Tryz.prog 134 []=some WF134:=by kernel_rfl
theorem WF134_ok:WF134.code.okc=true:=by kernel_rfl
noncomputable def WF135:AFunc:={ nargs:=2,ntmps:=26,code:=codeOf (cFunc Tryz.prog 135 [[0,1,12,13]]),results:=[(.tmp 4)] }
theorem WF135_is:cFunc Tryz.prog 135 [[0,1,12,13]]=some WF135:=by kernel_rfl
theorem WF135_ok:WF135.code.okc=true:=by kernel_rfl
noncomputable def WB135_0:ACode:=(cL (cK (cB (cA (cB (cB WF135.code))))))
theorem WB135_0_ok:WB135_0.okc=true:=by kernel_rfl
noncomputable def WF136:AFunc:={ nargs:=1,ntmps:=23,code:=codeOf (cFunc Tryz.prog 136 [[3,9,10]]),results:=[(.tmp 2)] }
theorem WF136_is:cFunc Tryz.prog 136 [[3,9,10]]=some WF136:=by kernel_rfl
theorem WF136_ok:WF136.code.okc=true:=by kernel_rfl
noncomputable def WB136_0:ACode:=(cL (cK (cB (cA (cB (cB WF136.code))))))
theorem WB136_0_ok:WB136_0.okc=true:=by kernel_rfl
noncomputable def WF137:AFunc:={ nargs:=2,ntmps:=9,code:=codeOf (cFunc Tryz.prog 137 []),results:=[(.tmp 4)] }
theorem WF137_is:cFunc Tryz.prog 137 []=some WF137:=by kernel_rfl
theorem WF137_ok:WF137.code.okc=true:=by kernel_rfl
noncomputable def WF138:AFunc:={ nargs:=1,ntmps:=6,code:=codeOf (cFunc Tryz.prog 138 []),results:=[(.tmp 2)] }
theorem WF138_is:cFunc Tryz.prog 138 []=some WF138:=by kernel_rfl
theorem WF138_ok:WF138.code.okc=true:=by kernel_rfl
noncomputable def WF139:AFunc:={ nargs:=1,ntmps:=21,code:=codeOf (cFunc Tryz.prog 139 []),results:=[(.tmp 2)] }
theorem WF139_is:cFunc Tryz.prog 139 []=some WF139:=by kernel_rfl
theorem WF139_ok:WF139.code.okc=true:=by kernel_rfl
noncomputable def WJ139_babka:ACode:=(cA (cK (cB (cA (cB WF139.code)))))
theorem WJ139_babka_ok:WJ139_babka.okc=true:=by kernel_rfl
noncomputable def WF142:AFunc:={ nargs:=1,ntmps:=47,code:=codeOf (cFunc Tryz.prog 142 [[0,2,5,6]]),results:=[(.tmp 2),(.tmp 3),(.tmp 4)] }
theorem WF142_is:cFunc Tryz.prog 142 [[0,2,5,6]]=some WF142:=by kernel_rfl
theorem WF142_ok:WF142.code.okc=true:=by kernel_rfl
noncomputable def WJ142_bbba:ACode:=(cA (cB (cB (cB WF142.code))))
theorem WJ142_bbba_ok:WJ142_bbba.okc=true:=by kernel_rfl
noncomputable def WB142_0:ACode:=(cL (cK (cB (cA (cB (cB (cB (cB WF142.code))))))))
theorem WB142_0_ok:WB142_0.okc=true:=by kernel_rfl
noncomputable def WJ142_bbbbba:ACode:=(cA (cB (cB (cB (cB (cB WF142.code))))))
theorem WJ142_bbbbba_ok:WJ142_bbbbba.okc=true:=by kernel_rfl
noncomputable def WF143:AFunc:={ nargs:=1,ntmps:=9,code:=codeOf (cFunc Tryz.prog 143 []),results:=[(.tmp 2)] }
theorem WF143_is:cFunc Tryz.prog 143 []=some WF143:=by kernel_rfl
theorem WF143_ok:WF143.code.okc=true:=by kernel_rfl
noncomputable def WF144:AFunc:={ nargs:=1,ntmps:=6,code:=codeOf (cFunc Tryz.prog 144 []),results:=[(.tmp 2)] }
theorem WF144_is:cFunc Tryz.prog 144 []=some WF144:=by kernel_rfl
theorem WF144_ok:WF144.code.okc=true:=by kernel_rfl
noncomputable def WF145:AFunc:={ nargs:=2,ntmps:=19,code:=codeOf (cFunc Tryz.prog 145 [[0,1,7,8]]),results:=[(.tmp 4)] }
theorem WF145_is:cFunc Tryz.prog 145 [[0,1,7,8]]=some WF145:=by kernel_rfl
theorem WF145_ok:WF145.code.okc=true:=by kernel_rfl
noncomputable def WB145_0:ACode:=(cL (cK (cB (cA (cB WF145.code)))))
theorem WB145_0_ok:WB145_0.okc=true:=by kernel_rfl
noncomputable def WF146:AFunc:={ nargs:=1,ntmps:=28,code:=codeOf (cFunc Tryz.prog 146 []),results:=[(.cell 2 true 5)] }
theorem WF146_is:cFunc Tryz.prog 146 []=some WF146:=by kernel_rfl
theorem WF146_ok:WF146.code.okc=true:=by kernel_rfl
noncomputable def WF147:AFunc:={ nargs:=2,ntmps:=19,code:=codeOf (cFunc Tryz.prog 147 [[0,1,7,8]]),results:=[(.tmp 4)] }
theorem WF147_is:cFunc Tryz.prog 147 [[0,1,7,8]]=some WF147:=by kernel_rfl
theorem WF147_ok:WF147.code.okc=true:=by kernel_rfl
noncomputable def WB147_0:ACode:=(cL (cK (cB (cA (cB WF147.code)))))
theorem WB147_0_ok:WB147_0.okc=true:=by kernel_rfl
noncomputable def WF148:AFunc:={ nargs:=2,ntmps:=37,code:=codeOf (cFunc Tryz.prog 148 []),results:=[(.tmp 4)] }
theorem WF148_is:cFunc Tryz.prog 148 []=some WF148:=by kernel_rfl
theorem WF148_ok:WF148.code.okc=true:=by kernel_rfl
noncomputable def WF149:AFunc:={ nargs:=2,ntmps:=17,code:=codeOf (cFunc Tryz.prog 149 []),results:=[(.tmp 4)] }
theorem WF149_is:cFunc Tryz.prog 149 []=some WF149:=by kernel_rfl
theorem WF149_ok:WF149.code.okc=true:=by kernel_rfl
noncomputable def WF150:AFunc:={ nargs:=1,ntmps:=22,code:=codeOf (cFunc Tryz.prog 150 []),results:=[(.cell 2 true 5)] }
theorem WF150_is:cFunc Tryz.prog 150 []=some WF150:=by kernel_rfl
theorem WF150_ok:WF150.code.okc=true:=by kernel_rfl
noncomputable def WF151:AFunc:={ nargs:=1,ntmps:=9,code:=codeOf (cFunc Tryz.prog 151 []),results:=[(.tmp 2)] }
theorem WF151_is:cFunc Tryz.prog 151 []=some WF151:=by kernel_rfl
theorem WF151_ok:WF151.code.okc=true:=by kernel_rfl
noncomputable def WF152:AFunc:={ nargs:=2,ntmps:=42,code:=codeOf (cFunc Tryz.prog 152 [[0,1,6]]),results:=[(.tmp 4),(.tmp 5)] }
theorem WF152_is:cFunc Tryz.prog 152 [[0,1,6]]=some WF152:=by kernel_rfl
theorem WF152_ok:WF152.code.okc=true:=by kernel_rfl
noncomputable def WB152_0:ACode:=(cL (cK (cB (cA (cB WF152.code)))))
theorem WB152_0_ok:WB152_0.okc=true:=by kernel_rfl
noncomputable def WF153:AFunc:={ nargs:=1,ntmps:=20,code:=codeOf (cFunc Tryz.prog 153 [[2,3,6,7,8]]),results:=[(.cell 2 true 1)] }
theorem WF153_is:cFunc Tryz.prog 153 [[2,3,6,7,8]]=some WF153:=by kernel_rfl
theorem WF153_ok:WF153.code.okc=true:=by kernel_rfl
noncomputable def WB153_0:ACode:=(cL (cK (cB (cA (cB (cB WF153.code))))))
theorem WB153_0_ok:WB153_0.okc=true:=by kernel_rfl
noncomputable def WF154:AFunc:={ nargs:=1,ntmps:=16,code:=codeOf (cFunc Tryz.prog 154 [[2,3,6,7,8]]),results:=[(.cell 2 true 16)] }
theorem WF154_is:cFunc Tryz.prog 154 [[2,3,6,7,8]]=some WF154:=by kernel_rfl
theorem WF154_ok:WF154.code.okc=true:=by kernel_rfl
noncomputable def WB154_0:ACode:=(cL (cK (cB (cA (cB (cB WF154.code))))))
theorem WB154_0_ok:WB154_0.okc=true:=by kernel_rfl
noncomputable def WF155:AFunc:={ nargs:=1,ntmps:=8,code:=codeOf (cFunc Tryz.prog 155 []),results:=[(.tmp 2)] }
theorem WF155_is:cFunc Tryz.prog 155 []=some WF155:=by kernel_rfl
theorem WF155_ok:WF155.code.okc=true:=by kernel_rfl
noncomputable def WF156:AFunc:={ nargs:=2,ntmps:=19,code:=codeOf (cFunc Tryz.prog 156 [[0,1,7,8]]),results:=[(.tmp 4)] }
theorem WF156_is:cFunc Tryz.prog 156 [[0,1,7,8]]=some WF156:=by kernel_rfl
theorem WF156_ok:WF156.code.okc=true:=by kernel_rfl
noncomputable def WB156_0:ACode:=(cL (cK (cB (cA (cB WF156.code)))))
theorem WB156_0_ok:WB156_0.okc=true:=by kernel_rfl
noncomputable def WF158:AFunc:={ nargs:=2,ntmps:=19,code:=codeOf (cFunc Tryz.prog 158 [[0,1,7,8]]),results:=[(.tmp 4)] }
theorem WF158_is:cFunc Tryz.prog 158 [[0,1,7,8]]=some WF158:=by kernel_rfl
theorem WF158_ok:WF158.code.okc=true:=by kernel_rfl
noncomputable def WB158_0:ACode:=(cL (cK (cB (cA (cB WF158.code)))))
theorem WB158_0_ok:WB158_0.okc=true:=by kernel_rfl
noncomputable def WF159:AFunc:={ nargs:=1,ntmps:=6,code:=codeOf (cFunc Tryz.prog 159 []),results:=[(.tmp 2)] }
theorem WF159_is:cFunc Tryz.prog 159 []=some WF159:=by kernel_rfl
theorem WF159_ok:WF159.code.okc=true:=by kernel_rfl
noncomputable def WF160:AFunc:={ nargs:=1,ntmps:=7,code:=codeOf (cFunc Tryz.prog 160 []),results:=[(.tmp 2)] }
theorem WF160_is:cFunc Tryz.prog 160 []=some WF160:=by kernel_rfl
theorem WF160_ok:WF160.code.okc=true:=by kernel_rfl
noncomputable def WF161:AFunc:={ nargs:=2,ntmps:=65,code:=codeOf (cFunc Tryz.prog 161 []),results:=[(.cell 4 true 2)] }
theorem WF161_is:cFunc Tryz.prog 161 []=some WF161:=by kernel_rfl
theorem WF161_ok:WF161.code.okc=true:=by kernel_rfl
noncomputable def WF162:AFunc:={ nargs:=2,ntmps:=38,code:=codeOf (cFunc Tryz.prog 162 []),results:=[(.tmp 4)] }
theorem WF162_is:cFunc Tryz.prog 162 []=some WF162:=by kernel_rfl
theorem WF162_ok:WF162.code.okc=true:=by kernel_rfl
noncomputable def WJ162_ba:ACode:=(cA (cB WF162.code))
theorem WJ162_ba_ok:WJ162_ba.okc=true:=by kernel_rfl
noncomputable def WF163:AFunc:={ nargs:=2,ntmps:=14,code:=codeOf (cFunc Tryz.prog 163 []),results:=[(.tmp 4),(.tmp 5)] }
theorem WF163_is:cFunc Tryz.prog 163 []=some WF163:=by kernel_rfl
theorem WF163_ok:WF163.code.okc=true:=by kernel_rfl
noncomputable def WF164:AFunc:={ nargs:=4,ntmps:=41,code:=codeOf (cFunc Tryz.prog 164 []),results:=[(.cell 8 true 2)] }
theorem WF164_is:cFunc Tryz.prog 164 []=some WF164:=by kernel_rfl
theorem WF164_ok:WF164.code.okc=true:=by kernel_rfl
noncomputable def WF165:AFunc:={ nargs:=3,ntmps:=28,code:=codeOf (cFunc Tryz.prog 165 []),results:=[(.cell 6 true 2)] }
theorem WF165_is:cFunc Tryz.prog 165 []=some WF165:=by kernel_rfl
theorem WF165_ok:WF165.code.okc=true:=by kernel_rfl
noncomputable def WF166:AFunc:={ nargs:=3,ntmps:=33,code:=codeOf (cFunc Tryz.prog 166 []),results:=[(.tmp 6)] }
theorem WF166_is:cFunc Tryz.prog 166 []=some WF166:=by kernel_rfl
theorem WF166_ok:WF166.code.okc=true:=by kernel_rfl
noncomputable def WF167:AFunc:={ nargs:=3,ntmps:=49,code:=codeOf (cFunc Tryz.prog 167 [[0,1,2,8,9,10]]),results:=[(.tmp 6),(.tmp 7)] }
theorem WF167_is:cFunc Tryz.prog 167 [[0,1,2,8,9,10]]=some WF167:=by kernel_rfl
theorem WF167_ok:WF167.code.okc=true:=by kernel_rfl
noncomputable def WB167_0:ACode:=(cL (cK (cA (cB (cB (cB WF167.code))))))
theorem WB167_0_ok:WB167_0.okc=true:=by kernel_rfl
noncomputable def WF168:AFunc:={ nargs:=2,ntmps:=9,code:=codeOf (cFunc Tryz.prog 168 []),results:=[(.tmp 4)] }
theorem WF168_is:cFunc Tryz.prog 168 []=some WF168:=by kernel_rfl
theorem WF168_ok:WF168.code.okc=true:=by kernel_rfl
noncomputable def WF169:AFunc:={ nargs:=2,ntmps:=20,code:=codeOf (cFunc Tryz.prog 169 []),results:=[(.tmp 4)] }
theorem WF169_is:cFunc Tryz.prog 169 []=some WF169:=by kernel_rfl
theorem WF169_ok:WF169.code.okc=true:=by kernel_rfl
noncomputable def WF170:AFunc:={ nargs:=3,ntmps:=22,code:=codeOf (cFunc Tryz.prog 170 []),results:=[] }
theorem WF170_is:cFunc Tryz.prog 170 []=some WF170:=by kernel_rfl
theorem WF170_ok:WF170.code.okc=true:=by kernel_rfl
noncomputable def WF171:AFunc:={ nargs:=3,ntmps:=95,code:=codeOf (cFunc Tryz.prog 171 []),results:=[(.tmp 6)] }
theorem WF171_is:cFunc Tryz.prog 171 []=some WF171:=by kernel_rfl
noncomputable def WF172:AFunc:={ nargs:=1,ntmps:=6,code:=codeOf (cFunc Tryz.prog 172 []),results:=[(.tmp 2)] }
theorem WF172_is:cFunc Tryz.prog 172 []=some WF172:=by kernel_rfl
theorem WF172_ok:WF172.code.okc=true:=by kernel_rfl
noncomputable def WF174:AFunc:={ nargs:=2,ntmps:=10,code:=codeOf (cFunc Tryz.prog 174 []),results:=[] }
theorem WF174_is:cFunc Tryz.prog 174 []=some WF174:=by kernel_rfl
theorem WF174_ok:WF174.code.okc=true:=by kernel_rfl
noncomputable def WF175:AFunc:={ nargs:=2,ntmps:=14,code:=codeOf (cFunc Tryz.prog 175 []),results:=[] }
theorem WF175_is:cFunc Tryz.prog 175 []=some WF175:=by kernel_rfl
theorem WF175_ok:WF175.code.okc=true:=by kernel_rfl
noncomputable def WF176:AFunc:={ nargs:=1,ntmps:=28,code:=codeOf (cFunc Tryz.prog 176 [[0,2,3]]),results:=[] }
theorem WF176_is:cFunc Tryz.prog 176 [[0,2,3]]=some WF176:=by kernel_rfl
theorem WF176_ok:WF176.code.okc=true:=by kernel_rfl
end Go.Proofs.YtgahmammhclobaaGreat
