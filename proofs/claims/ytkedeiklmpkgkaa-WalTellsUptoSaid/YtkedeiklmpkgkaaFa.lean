import Derived.Test.YtkedeiklmpkgkaaJ5
import Derived.Test.YtkedeiklmpkgkaaProg
import Derived.Test.YtkedeiklmpkgkaaJ6
import Derived.Test.YtkedeiklmpkgkaaL4
set_option linter.all false
set_option maxRecDepth 100000
namespace Go.Proofs.Ytkedeiklmpkgkaa
noncomputable def X0:bF:={ nargs:=2,ntmps:=173,code:=codeOf (aX Try.prog 8 [[1,5,6,7,31,32,33]]),results:=[(.tmp 4)] }
theorem YG:aX Try.prog 8 [[1,5,6,7,31,32,33]]=some X0:=by kernel_rfl
theorem YH:X0.code.bE=true:=by kernel_rfl
noncomputable def JB:bK:=(cA (cB (cB (cB (cB X0.code)))))
theorem Ku:JB.bE=true:=by kernel_rfl
noncomputable def Ti:bK:=(cL (cK (cB (cA (cB (cB (cB (cB (cB X0.code)))))))))
theorem Tj:Ti.bE=true:=by kernel_rfl
noncomputable def p9:bK:=(cA (cB (cB (cK (cA (cB (cB (cL (cK (cB (cA (cB (cB (cB (cB (cB X0.code))))))))))))))))
theorem vE:p9.bE=true:=by kernel_rfl
noncomputable def Tk:bF:={ nargs:=0,ntmps:=3,code:=codeOf (aX Try.prog 16 []),results:=[(.tmp 0)] }
theorem VE:aX Try.prog 16 []=some Tk:=by kernel_rfl
theorem VF:Tk.code.bE=true:=by kernel_rfl
noncomputable def Tn:bF:={ nargs:=2,ntmps:=26,code:=codeOf (aX Try.prog 19 []),results:=[(.tmp 4)] }
theorem VG:aX Try.prog 19 []=some Tn:=by kernel_rfl
theorem VH:Tn.code.bE=true:=by kernel_rfl
noncomputable def Tp:bF:={ nargs:=1,ntmps:=9,code:=codeOf (aX Try.prog 20 []),results:=[(.tmp 2)] }
theorem VJ:aX Try.prog 20 []=some Tp:=by kernel_rfl
theorem VK:Tp.code.bE=true:=by kernel_rfl
noncomputable def Tq:bF:={ nargs:=1,ntmps:=23,code:=codeOf (aX Try.prog 21 []),results:=[(.tmp 2)] }
theorem VN:aX Try.prog 21 []=some Tq:=by kernel_rfl
theorem VO:Tq.code.bE=true:=by kernel_rfl
noncomputable def Tt:bF:={ nargs:=2,ntmps:=39,code:=codeOf (aX Try.prog 22 []),results:=[(.tmp 4)] }
theorem VP:aX Try.prog 22 []=some Tt:=by kernel_rfl
theorem VQ:Tt.code.bE=true:=by kernel_rfl
noncomputable def Tv:bF:={ nargs:=2,ntmps:=14,code:=codeOf (aX Try.prog 23 []),results:=[(.tmp 4)] }
theorem VT:aX Try.prog 23 []=some Tv:=by kernel_rfl
theorem VU:Tv.code.bE=true:=by kernel_rfl
noncomputable def Tx:bF:={ nargs:=1,ntmps:=7,code:=codeOf (aX Try.prog 24 []),results:=[(.tmp 2)] }
theorem VW:aX Try.prog 24 []=some Tx:=by kernel_rfl
theorem VX:Tx.code.bE=true:=by kernel_rfl
noncomputable def Tz:bF:={ nargs:=1,ntmps:=8,code:=codeOf (aX Try.prog 25 []),results:=[(.tmp 2)] }
theorem VY:aX Try.prog 25 []=some Tz:=by kernel_rfl
theorem VZ:Tz.code.bE=true:=by kernel_rfl
noncomputable def Qs:bF:={ nargs:=2,ntmps:=29,code:=codeOf (aX Try.prog 26 [[5,10,11,12]]),results:=[(.tmp 4)] }
theorem V3:aX Try.prog 26 [[5,10,11,12]]=some Qs:=by kernel_rfl
theorem V4:Qs.code.bE=true:=by kernel_rfl
noncomputable def NK:bK:=(cL (cK (cB (cA (cB (cB Qs.code))))))
theorem Qt:NK.bE=true:=by kernel_rfl
noncomputable def Qu:bF:={ nargs:=1,ntmps:=27,code:=codeOf (aX Try.prog 27 [[0,2,3]]),results:=[(.tmp 2),(.tmp 3)] }
theorem V5:aX Try.prog 27 [[0,2,3]]=some Qu:=by kernel_rfl
theorem V6:Qu.code.bE=true:=by kernel_rfl
noncomputable def NM:bK:=(cL (cK (cB Qu.code)))
theorem Qv:NM.bE=true:=by kernel_rfl
noncomputable def TA:bF:={ nargs:=1,ntmps:=27,code:=codeOf (aX Try.prog 30 []),results:=[(.tmp 2)] }
theorem V7:aX Try.prog 30 []=some TA:=by kernel_rfl
theorem V8:TA.code.bE=true:=by kernel_rfl
noncomputable def Qw:bF:={ nargs:=0,ntmps:=58,code:=codeOf (aX Try.prog 31 []),results:=[(.tmp 0)] }
theorem V9:aX Try.prog 31 []=some Qw:=by kernel_rfl
theorem V_:Qw.code.bE=true:=by kernel_rfl
noncomputable def JC:bK:=(cA (cB (cB (cB Qw.code))))
theorem Kv:JC.bE=true:=by kernel_rfl
noncomputable def NP:bF:={ nargs:=1,ntmps:=24,code:=codeOf (aX Try.prog 32 [[0,3,4]]),results:=[(.tmp 2)] }
theorem Wd:aX Try.prog 32 [[0,3,4]]=some NP:=by kernel_rfl
theorem Wh:NP.code.bE=true:=by kernel_rfl
noncomputable def Gh:bK:=(cL (cK (cB (cA (cB (cB NP.code))))))
theorem JD:Gh.bE=true:=by kernel_rfl
noncomputable def wO:bK:=(cA (cL (cK (cB (cA (cB (cB NP.code)))))))
theorem xJ:wO.bE=true:=by kernel_rfl
noncomputable def TB:bF:={ nargs:=2,ntmps:=15,code:=codeOf (aX Try.prog 33 []),results:=[(.tmp 4)] }
theorem Wi:aX Try.prog 33 []=some TB:=by kernel_rfl
theorem Wj:TB.code.bE=true:=by kernel_rfl
noncomputable def TD:bF:={ nargs:=2,ntmps:=18,code:=codeOf (aX Try.prog 34 []),results:=[(.tmp 4)] }
theorem Wm:aX Try.prog 34 []=some TD:=by kernel_rfl
theorem Wn:TD.code.bE=true:=by kernel_rfl
noncomputable def TF:bF:={ nargs:=1,ntmps:=15,code:=codeOf (aX Try.prog 35 []),results:=[(.tmp 2)] }
theorem Wo:aX Try.prog 35 []=some TF:=by kernel_rfl
theorem Wp:TF.code.bE=true:=by kernel_rfl
noncomputable def Qx:bF:={ nargs:=2,ntmps:=28,code:=codeOf (aX Try.prog 36 [[0,1,12,13]]),results:=[(.tmp 4)] }
theorem Wq:aX Try.prog 36 [[0,1,12,13]]=some Qx:=by kernel_rfl
theorem Ws:Qx.code.bE=true:=by kernel_rfl
noncomputable def NQ:bK:=(cL (cK (cB (cA (cB (cB Qx.code))))))
theorem Qy:NQ.bE=true:=by kernel_rfl
noncomputable def TG:bF:={ nargs:=1,ntmps:=23,code:=codeOf (aX Try.prog 37 []),results:=[(.tmp 2)] }
theorem Wt:aX Try.prog 37 []=some TG:=by kernel_rfl
theorem Wu:TG.code.bE=true:=by kernel_rfl
noncomputable def TH:bF:={ nargs:=2,ntmps:=43,code:=codeOf (aX Try.prog 38 []),results:=[(.tmp 4)] }
theorem Wv:aX Try.prog 38 []=some TH:=by kernel_rfl
theorem Ww:TH.code.bE=true:=by kernel_rfl
noncomputable def TI:bF:={ nargs:=1,ntmps:=27,code:=codeOf (aX Try.prog 39 []),results:=[] }
theorem Wx:aX Try.prog 39 []=some TI:=by kernel_rfl
theorem Wy:TI.code.bE=true:=by kernel_rfl
noncomputable def TJ:bF:={ nargs:=2,ntmps:=17,code:=codeOf (aX Try.prog 40 []),results:=[(.tmp 4)] }
theorem Wz:aX Try.prog 40 []=some TJ:=by kernel_rfl
theorem WA:TJ.code.bE=true:=by kernel_rfl
noncomputable def TK:bF:={ nargs:=2,ntmps:=14,code:=codeOf (aX Try.prog 41 []),results:=[(.tmp 4)] }
theorem WB:aX Try.prog 41 []=some TK:=by kernel_rfl
theorem WC:TK.code.bE=true:=by kernel_rfl
noncomputable def NS:bF:={ nargs:=2,ntmps:=48,code:=codeOf (aX Try.prog 42 [[0,1,5,6],[0,1,7]]),results:=[(.tmp 4)] }
theorem WE:aX Try.prog 42 [[0,1,5,6],[0,1,7]]=some NS:=by kernel_rfl
theorem WG:NS.code.bE=true:=by kernel_rfl
noncomputable def NT:bK:=(cL (cK (cB (cA (cB (cB NS.code))))))
theorem Qz:NT.bE=true:=by kernel_rfl
noncomputable def NU:bK:=(cL (cK (cB (cA (cB (cB (cB (cB NS.code))))))))
theorem QA:NU.bE=true:=by kernel_rfl
noncomputable def TL:bF:={ nargs:=2,ntmps:=15,code:=codeOf (aX Try.prog 43 []),results:=[(.tmp 4)] }
theorem WI:aX Try.prog 43 []=some TL:=by kernel_rfl
theorem WJ:TL.code.bE=true:=by kernel_rfl
noncomputable def Mq:bF:={ nargs:=1,ntmps:=67,code:=codeOf (aX Try.prog 44 [[0,4,5]]),results:=[(.tmp 2),(.tmp 3)] }
theorem WK:aX Try.prog 44 [[0,4,5]]=some Mq:=by kernel_rfl
theorem WL:Mq.code.bE=true:=by kernel_rfl
noncomputable def NV:bK:=(cL (cK (cB (cB (cB Mq.code)))))
theorem QB:NV.bE=true:=by kernel_rfl
noncomputable def yR:bK:=(cA (cB (cB (cK (cL (cK (cB (cB (cB Mq.code)))))))))
theorem Co:yR.bE=true:=by kernel_rfl
noncomputable def xK:bK:=(cA (cA (cB (cB (cK (cL (cK (cB (cB (cB Mq.code))))))))))
theorem A_:xK.bE=true:=by kernel_rfl
noncomputable def NW:bF:={ nargs:=1,ntmps:=36,code:=codeOf (aX Try.prog 65 [[0,3,9,10,11],[6,25,26,27]]),results:=[(.tmp 2)] }
theorem WM:aX Try.prog 65 [[0,3,9,10,11],[6,25,26,27]]=some NW:=by kernel_rfl
theorem WO:NW.code.bE=true:=by kernel_rfl
noncomputable def NY:bK:=(cL (cK (cB (cA (cB (cB NW.code))))))
theorem QC:NY.bE=true:=by kernel_rfl
noncomputable def NZ:bK:=(cL (cK (cB (cA (cB (cB (cB (cB NW.code))))))))
theorem QD:NZ.bE=true:=by kernel_rfl
noncomputable def TM:bF:={ nargs:=1,ntmps:=9,code:=codeOf (aX Try.prog 66 []),results:=[(.tmp 2)] }
theorem WQ:aX Try.prog 66 []=some TM:=by kernel_rfl
theorem WR:TM.code.bE=true:=by kernel_rfl
noncomputable def TN:bF:={ nargs:=1,ntmps:=8,code:=codeOf (aX Try.prog 67 []),results:=[(.tmp 2)] }
theorem WS:aX Try.prog 67 []=some TN:=by kernel_rfl
theorem WT:TN.code.bE=true:=by kernel_rfl
noncomputable def Mr:bF:={ nargs:=2,ntmps:=41,code:=codeOf (aX Try.prog 68 [[5,10,11,12],[5,7,10,11,12]]),results:=[(.tmp 4)] }
theorem WU:aX Try.prog 68 [[5,10,11,12],[5,7,10,11,12]]=some Mr:=by kernel_rfl
theorem WV:Mr.code.bE=true:=by kernel_rfl
noncomputable def N7:bK:=(cL (cK (cB (cA (cB (cB Mr.code))))))
theorem QE:N7.bE=true:=by kernel_rfl
noncomputable def uF:bK:=(cA (cB (cK (cA (cB (cB (cL (cK (cB (cA (cB (cB Mr.code))))))))))))
theorem yS:uF.bE=true:=by kernel_rfl
noncomputable def N8:bK:=(cL (cK (cA (cB (cB (cK (cA (cB (cB (cL (cK (cB (cA (cB (cB Mr.code)))))))))))))))
theorem QF:N8.bE=true:=by kernel_rfl
noncomputable def QG:bF:={ nargs:=1,ntmps:=24,code:=codeOf (aX Try.prog 69 [[3,4,10]]),results:=[(.tmp 2)] }
theorem WW:aX Try.prog 69 [[3,4,10]]=some QG:=by kernel_rfl
theorem WX:QG.code.bE=true:=by kernel_rfl
noncomputable def N9:bK:=(cL (cK (cB (cA (cB (cB (cB QG.code)))))))
theorem QH:N9.bE=true:=by kernel_rfl
noncomputable def QI:bF:={ nargs:=1,ntmps:=64,code:=codeOf (aX Try.prog 70 []),results:=[(.tmp 2),(.tmp 3),(.tmp 4)] }
theorem WY:aX Try.prog 70 []=some QI:=by kernel_rfl
theorem WZ:QI.code.bE=true:=by kernel_rfl
noncomputable def JE:bK:=(cA (cB (cB (cB QI.code))))
theorem Kw:JE.bE=true:=by kernel_rfl
noncomputable def TP:bF:={ nargs:=1,ntmps:=9,code:=codeOf (aX Try.prog 71 []),results:=[(.tmp 2)] }
theorem W9:aX Try.prog 71 []=some TP:=by kernel_rfl
theorem W_:TP.code.bE=true:=by kernel_rfl
noncomputable def TQ:bF:={ nargs:=2,ntmps:=18,code:=codeOf (aX Try.prog 72 []),results:=[(.tmp 4)] }
theorem Xa:aX Try.prog 72 []=some TQ:=by kernel_rfl
theorem Xb:TQ.code.bE=true:=by kernel_rfl
noncomputable def TR:bF:={ nargs:=1,ntmps:=5,code:=codeOf (aX Try.prog 73 []),results:=[(.tmp 2)] }
theorem Xc:aX Try.prog 73 []=some TR:=by kernel_rfl
theorem Xd:TR.code.bE=true:=by kernel_rfl
noncomputable def TT:bF:={ nargs:=3,ntmps:=12,code:=codeOf (aX Try.prog 74 []),results:=[(.tmp 6)] }
theorem Xe:aX Try.prog 74 []=some TT:=by kernel_rfl
theorem Xf:TT.code.bE=true:=by kernel_rfl
noncomputable def TU:bF:={ nargs:=2,ntmps:=19,code:=codeOf (aX Try.prog 75 []),results:=[(.tmp 4)] }
theorem Xg:aX Try.prog 75 []=some TU:=by kernel_rfl
theorem Xh:TU.code.bE=true:=by kernel_rfl
noncomputable def QJ:bF:={ nargs:=1,ntmps:=16,code:=codeOf (aX Try.prog 76 [[0,3]]),results:=[(.tmp 2)] }
theorem Xi:aX Try.prog 76 [[0,3]]=some QJ:=by kernel_rfl
theorem Xj:QJ.code.bE=true:=by kernel_rfl
noncomputable def N_:bK:=(cL (cK (cB (cA (cB QJ.code)))))
theorem QK:N_.bE=true:=by kernel_rfl
noncomputable def QL:bF:={ nargs:=2,ntmps:=41,code:=codeOf (aX Try.prog 77 [[1,5,6]]),results:=[(.tmp 4)] }
theorem Xk:aX Try.prog 77 [[1,5,6]]=some QL:=by kernel_rfl
theorem Xl:QL.code.bE=true:=by kernel_rfl
noncomputable def Oa:bK:=(cL (cK (cB (cA (cB (cB QL.code))))))
theorem QM:Oa.bE=true:=by kernel_rfl
noncomputable def Ky:bF:={ nargs:=1,ntmps:=56,code:=codeOf (aX Try.prog 78 [[0,5,6]]),results:=[(.tmp 2),(.tmp 3),(.tmp 4)] }
theorem Xm:aX Try.prog 78 [[0,5,6]]=some Ky:=by kernel_rfl
theorem Xn:Ky.code.bE=true:=by kernel_rfl
noncomputable def Ob:bK:=(cL (cK (cB (cA (cB (cB Ky.code))))))
theorem QN:Ob.bE=true:=by kernel_rfl
noncomputable def vF:bK:=(cA (cB (cK (cA (cB (cL (cK (cB (cA (cB (cB Ky.code)))))))))))
theorem zX:vF.bE=true:=by kernel_rfl
noncomputable def uG:bK:=(cA (cA (cB (cK (cA (cB (cL (cK (cB (cA (cB (cB Ky.code))))))))))))
theorem yT:uG.bE=true:=by kernel_rfl
noncomputable def qY:bK:=(cA (cB (cB (cB (cB (cK (cA (cB (cL (cK (cB (cA (cB (cB Ky.code))))))))))))))
theorem wQ:qY.bE=true:=by kernel_rfl
noncomputable def QO:bF:={ nargs:=1,ntmps:=19,code:=codeOf (aX Try.prog 79 [[0,3,4]]),results:=[(.tmp 2)] }
theorem Xo:aX Try.prog 79 [[0,3,4]]=some QO:=by kernel_rfl
theorem Xp:QO.code.bE=true:=by kernel_rfl
noncomputable def Oc:bK:=(cL (cK (cB (cA (cB (cB QO.code))))))
theorem QS:Oc.bE=true:=by kernel_rfl
noncomputable def Od:bF:={ nargs:=1,ntmps:=33,code:=codeOf (aX Try.prog 80 [[0,3,4],[0,3,4,5]]),results:=[(.tmp 2)] }
theorem Xq:aX Try.prog 80 [[0,3,4],[0,3,4,5]]=some Od:=by kernel_rfl
theorem Xr:Od.code.bE=true:=by kernel_rfl
noncomputable def Oe:bK:=(cL (cK (cB (cA (cB (cB Od.code))))))
theorem QT:Oe.bE=true:=by kernel_rfl
noncomputable def Og:bK:=(cL (cK (cB (cA (cK (cA (cB (cL (cK (cB (cA (cB (cB Od.code)))))))))))))
theorem QU:Og.bE=true:=by kernel_rfl
noncomputable def Ms:bF:={ nargs:=2,ntmps:=27,code:=codeOf (aX Try.prog 100 []),results:=[(.tmp 4)] }
theorem TV:aX Try.prog 100 []=some Ms:=by kernel_rfl
theorem TW:Ms.code.bE=true:=by kernel_rfl
noncomputable def Gi:bF:={ nargs:=1,ntmps:=32,code:=codeOf (aX Try.prog 101 [[3,8,9,10],[3,8,9,10,15,16,17]]),results:=[(.tmp 2)] }
theorem TY:aX Try.prog 101 [[3,8,9,10],[3,8,9,10,15,16,17]]=some Gi:=by kernel_rfl
theorem T9:Gi.code.bE=true:=by kernel_rfl
noncomputable def Kz:bK:=(cL (cK (cB (cA (cB (cB Gi.code))))))
theorem Oh:Kz.bE=true:=by kernel_rfl
noncomputable def KA:bK:=(cL (cK (cB (cA (cB (cK (cA (cB (cB (cL (cK (cB (cA (cB (cB Gi.code)))))))))))))))
theorem Oi:KA.bE=true:=by kernel_rfl
noncomputable def Mt:bF:={ nargs:=1,ntmps:=20,code:=codeOf (aX Try.prog 102 []),results:=[(.tmp 2),(.tmp 3),(.tmp 4)] }
theorem T_:aX Try.prog 102 []=some Mt:=by kernel_rfl
theorem Ua:Mt.code.bE=true:=by kernel_rfl
noncomputable def JF:bF:={ nargs:=2,ntmps:=26,code:=codeOf (aX Try.prog 103 [[0,1,12,13]]),results:=[(.tmp 4)] }
theorem Ub:aX Try.prog 103 [[0,1,12,13]]=some JF:=by kernel_rfl
theorem Uc:JF.code.bE=true:=by kernel_rfl
noncomputable def KC:bK:=(cL (cK (cB (cA (cB (cB JF.code))))))
theorem Oj:KC.bE=true:=by kernel_rfl
noncomputable def Mv:bF:={ nargs:=2,ntmps:=9,code:=codeOf (aX Try.prog 104 []),results:=[(.tmp 4)] }
theorem Ud:aX Try.prog 104 []=some Mv:=by kernel_rfl
theorem Ue:Mv.code.bE=true:=by kernel_rfl
noncomputable def Mw:bF:={ nargs:=1,ntmps:=6,code:=codeOf (aX Try.prog 105 []),results:=[(.tmp 2)] }
theorem Uf:aX Try.prog 105 []=some Mw:=by kernel_rfl
theorem Ug:Mw.code.bE=true:=by kernel_rfl
noncomputable def Gj:bF:={ nargs:=2,ntmps:=41,code:=codeOf (aX Try.prog 106 [[1,5,6],[1,5,6,7]]),results:=[(.tmp 4)] }
theorem Uh:aX Try.prog 106 [[1,5,6],[1,5,6,7]]=some Gj:=by kernel_rfl
theorem Ui:Gj.code.bE=true:=by kernel_rfl
noncomputable def KD:bK:=(cL (cK (cB (cA (cB (cB Gj.code))))))
theorem Ol:KD.bE=true:=by kernel_rfl
noncomputable def KE:bK:=(cL (cK (cA (cB (cB (cK (cA (cB (cL (cK (cB (cA (cB (cB Gj.code))))))))))))))
theorem Om:KE.bE=true:=by kernel_rfl
noncomputable def JG:bF:={ nargs:=2,ntmps:=18,code:=codeOf (aX Try.prog 107 [[0,5]]),results:=[(.tmp 4)] }
theorem Uj:aX Try.prog 107 [[0,5]]=some JG:=by kernel_rfl
theorem Uk:JG.code.bE=true:=by kernel_rfl
noncomputable def KF:bK:=(cL (cK (cB (cA (cB JG.code)))))
theorem Oo:KF.bE=true:=by kernel_rfl
noncomputable def Mx:bF:={ nargs:=2,ntmps:=9,code:=codeOf (aX Try.prog 108 []),results:=[(.tmp 4)] }
theorem Ul:aX Try.prog 108 []=some Mx:=by kernel_rfl
theorem Um:Mx.code.bE=true:=by kernel_rfl
noncomputable def Et:bF:={ nargs:=1,ntmps:=47,code:=codeOf (aX Try.prog 121 [[0,2,5,6]]),results:=[(.tmp 2),(.tmp 3),(.tmp 4)] }
theorem Un:aX Try.prog 121 [[0,2,5,6]]=some Et:=by kernel_rfl
theorem Uo:Et.code.bE=true:=by kernel_rfl
noncomputable def Gl:bK:=(cA (cB (cB (cB Et.code))))
theorem Ib:Gl.bE=true:=by kernel_rfl
noncomputable def KG:bK:=(cL (cK (cB (cA (cB (cB (cB (cB Et.code))))))))
theorem Oq:KG.bE=true:=by kernel_rfl
noncomputable def Cq:bK:=(cA (cB (cB (cB (cB (cB Et.code))))))
theorem EK:Cq.bE=true:=by kernel_rfl
noncomputable def MB:bF:={ nargs:=1,ntmps:=6,code:=codeOf (aX Try.prog 122 []),results:=[(.tmp 2)] }
theorem Uq:aX Try.prog 122 []=some MB:=by kernel_rfl
theorem Ur:MB.code.bE=true:=by kernel_rfl
noncomputable def JH:bF:={ nargs:=2,ntmps:=19,code:=codeOf (aX Try.prog 123 [[0,1,7,8]]),results:=[(.tmp 4)] }
theorem Us:aX Try.prog 123 [[0,1,7,8]]=some JH:=by kernel_rfl
theorem Ut:JH.code.bE=true:=by kernel_rfl
noncomputable def KH:bK:=(cL (cK (cB (cA (cB JH.code)))))
theorem Ot:KH.bE=true:=by kernel_rfl
noncomputable def MC:bF:={ nargs:=1,ntmps:=9,code:=codeOf (aX Try.prog 124 []),results:=[(.tmp 2)] }
theorem Uu:aX Try.prog 124 []=some MC:=by kernel_rfl
theorem Uv:MC.code.bE=true:=by kernel_rfl
noncomputable def JI:bF:={ nargs:=2,ntmps:=19,code:=codeOf (aX Try.prog 130 [[0,1,7,8]]),results:=[(.tmp 4)] }
theorem Uw:aX Try.prog 130 [[0,1,7,8]]=some JI:=by kernel_rfl
theorem Ux:JI.code.bE=true:=by kernel_rfl
noncomputable def KI:bK:=(cL (cK (cB (cA (cB JI.code)))))
theorem Ou:KI.bE=true:=by kernel_rfl
noncomputable def ME:bF:={ nargs:=1,ntmps:=6,code:=codeOf (aX Try.prog 131 []),results:=[(.tmp 2)] }
theorem Uy:aX Try.prog 131 []=some ME:=by kernel_rfl
theorem Uz:ME.code.bE=true:=by kernel_rfl
def JJ{α:Type}:List (Nat×α)→Nat→Option α
 | [],_=>none
 | p::r,n=>match Nat.beq p.1 n with
  | true=>some p.2
  | false=>JJ r n
theorem zP{α:Type}:∀ {l:List (Nat×α)} {n:Nat} {x:α},JJ l n=some x→(n,x)∈l
 | [],n,x,h=>by cases h
 | p::r,n,x,h=>by
  simp only[JJ]at h
  split at h
  ·rename_i e
   obtain rfl:=aj h
   rw[←aM e]
   exact List.mem_cons_self
  ·exact List.mem_cons_of_mem _ (zP h)
noncomputable def X3:List (Nat×bF):=[(8,X0),(16,Tk),(19,Tn),(20,Tp),(21,Tq),(22,Tt),(23,Tv),(24,Tx),(25,Tz),(26,Qs),(27,Qu),(30,TA),(31,Qw),(32,NP),(33,TB),(34,TD),(35,TF),(36,Qx),(37,TG),(38,TH),(39,TI),(40,TJ),(41,TK),(42,NS),(43,TL),(44,Mq),(65,NW),(66,TM),(67,TN),(68,Mr),(69,QG),(70,QI),(71,TP),(72,TQ),(73,TR),(74,TT),(75,TU),(76,QJ),(77,QL),(78,Ky),(79,QO),(80,Od),(100,Ms),(101,Gi),(102,Mt),(103,JF),(104,Mv),(105,Mw),(106,Gj),(107,JG),(108,Mx),(121,Et),(122,MB),(123,JH),(124,MC),(130,JI),(131,ME)]
noncomputable def UA:FuncId→Option bF:=JJ X3
def wGL:List (Nat×(List AV→Heap→Option (AV×Heap))):=[]
def wG:Lr:=JJ wGL
theorem YI:∀p∈wGL,(Dk Try.prog p.1∧Sound Try.prog p.1 p.2)∨K5 Try.prog p.1 p.2 :=
 (λ_ h=>by cases h)
theorem ZI:∀f g,wG f=some g→(Dk Try.prog f∧Sound Try.prog f g)∨K5 Try.prog f g:=λf g h=>YI (f,g) (zP h)
noncomputable def aR:Tab:=(wG,UA)
theorem UC:∀p∈X3,∃h,aX Try.prog p.1 h=some p.2 :=
 aB.2 ⟨⟨_,YG⟩,aB.2 ⟨⟨_,VE⟩,aB.2 ⟨⟨_,VG⟩,aB.2 ⟨⟨_,VJ⟩,aB.2 ⟨⟨_,VN⟩,aB.2 ⟨⟨_,VP⟩,aB.2 ⟨⟨_,VT⟩,aB.2 ⟨⟨_,VW⟩,aB.2 ⟨⟨_,VY⟩,aB.2 ⟨⟨_,V3⟩,aB.2 ⟨⟨_,V5⟩,aB.2 ⟨⟨_,V7⟩,aB.2 ⟨⟨_,V9⟩,aB.2 ⟨⟨_,Wd⟩,aB.2 ⟨⟨_,Wi⟩,aB.2 ⟨⟨_,Wm⟩,aB.2 ⟨⟨_,Wo⟩,aB.2 ⟨⟨_,Wq⟩,aB.2 ⟨⟨_,Wt⟩,aB.2 ⟨⟨_,Wv⟩,aB.2 ⟨⟨_,Wx⟩,aB.2 ⟨⟨_,Wz⟩,aB.2 ⟨⟨_,WB⟩,aB.2 ⟨⟨_,WE⟩,aB.2 ⟨⟨_,WI⟩,aB.2 ⟨⟨_,WK⟩,aB.2 ⟨⟨_,WM⟩,aB.2 ⟨⟨_,WQ⟩,aB.2 ⟨⟨_,WS⟩,aB.2 ⟨⟨_,WU⟩,aB.2 ⟨⟨_,WW⟩,aB.2 ⟨⟨_,WY⟩,aB.2 ⟨⟨_,W9⟩,aB.2 ⟨⟨_,Xa⟩,aB.2 ⟨⟨_,Xc⟩,aB.2 ⟨⟨_,Xe⟩,aB.2 ⟨⟨_,Xg⟩,aB.2 ⟨⟨_,Xi⟩,aB.2 ⟨⟨_,Xk⟩,aB.2 ⟨⟨_,Xm⟩,aB.2 ⟨⟨_,Xo⟩,aB.2 ⟨⟨_,Xq⟩,aB.2 ⟨⟨_,TV⟩,aB.2 ⟨⟨_,TY⟩,aB.2 ⟨⟨_,T_⟩,aB.2 ⟨⟨_,Ub⟩,aB.2 ⟨⟨_,Ud⟩,aB.2 ⟨⟨_,Uf⟩,aB.2 ⟨⟨_,Uh⟩,aB.2 ⟨⟨_,Uj⟩,aB.2 ⟨⟨_,Ul⟩,aB.2 ⟨⟨_,Un⟩,aB.2 ⟨⟨_,Uq⟩,aB.2 ⟨⟨_,Us⟩,aB.2 ⟨⟨_,Uu⟩,aB.2 ⟨⟨_,Uw⟩,aB.2 ⟨⟨_,Uy⟩,(λ_ h=>by cases h)⟩⟩⟩⟩⟩⟩⟩⟩⟩⟩⟩⟩⟩⟩⟩⟩⟩⟩⟩⟩⟩⟩⟩⟩⟩⟩⟩⟩⟩⟩⟩⟩⟩⟩⟩⟩⟩⟩⟩⟩⟩⟩⟩⟩⟩⟩⟩⟩⟩⟩⟩⟩⟩⟩⟩⟩⟩
theorem Xt{f:FuncId}{x:bF}(h:UA f=some x):∃hs,aX Try.prog f hs=some x:=UC (f,x) (zP h)
theorem AF8:aR.1 8=none∧aR.2 8=some X0∧X0.code.bE=true:=oF rfl (by kernel_rfl) YH
theorem aar:aR.1 16=none∧aR.2 16=some Tk∧Tk.code.bE=true:=oF rfl (by kernel_rfl) VF
theorem aas:aR.1 19=none∧aR.2 19=some Tn∧Tn.code.bE=true:=oF rfl (by kernel_rfl) VH
theorem ZJ:aR.1 20=none∧aR.2 20=some Tp∧Tp.code.bE=true:=oF rfl (by kernel_rfl) VK
theorem aat:aR.1 21=none∧aR.2 21=some Tq∧Tq.code.bE=true:=oF rfl (by kernel_rfl) VO
theorem aau:aR.1 22=none∧aR.2 22=some Tt∧Tt.code.bE=true:=oF rfl (by kernel_rfl) VQ
theorem aav:aR.1 23=none∧aR.2 23=some Tv∧Tv.code.bE=true:=oF rfl (by kernel_rfl) VU
theorem aaw:aR.1 24=none∧aR.2 24=some Tx∧Tx.code.bE=true:=oF rfl (by kernel_rfl) VX
theorem aax:aR.1 25=none∧aR.2 25=some Tz∧Tz.code.bE=true:=oF rfl (by kernel_rfl) VZ
theorem aay:aR.1 26=none∧aR.2 26=some Qs∧Qs.code.bE=true:=oF rfl (by kernel_rfl) V4
theorem aaz:aR.1 27=none∧aR.2 27=some Qu∧Qu.code.bE=true:=oF rfl (by kernel_rfl) V6
theorem ZK:aR.1 30=none∧aR.2 30=some TA∧TA.code.bE=true:=oF rfl (by kernel_rfl) V8
theorem aaA:aR.1 31=none∧aR.2 31=some Qw∧Qw.code.bE=true:=oF rfl (by kernel_rfl) V_
theorem ZL:aR.1 32=none∧aR.2 32=some NP∧NP.code.bE=true:=oF rfl (by kernel_rfl) Wh
theorem aaB:aR.1 33=none∧aR.2 33=some TB∧TB.code.bE=true:=oF rfl (by kernel_rfl) Wj
theorem aaC:aR.1 34=none∧aR.2 34=some TD∧TD.code.bE=true:=oF rfl (by kernel_rfl) Wn
theorem aaD:aR.1 35=none∧aR.2 35=some TF∧TF.code.bE=true:=oF rfl (by kernel_rfl) Wp
theorem aaE:aR.1 36=none∧aR.2 36=some Qx∧Qx.code.bE=true:=oF rfl (by kernel_rfl) Ws
theorem aaF:aR.1 37=none∧aR.2 37=some TG∧TG.code.bE=true:=oF rfl (by kernel_rfl) Wu
theorem aaG:aR.1 38=none∧aR.2 38=some TH∧TH.code.bE=true:=oF rfl (by kernel_rfl) Ww
theorem ZM:aR.1 39=none∧aR.2 39=some TI∧TI.code.bE=true:=oF rfl (by kernel_rfl) Wy
theorem aaH:aR.1 40=none∧aR.2 40=some TJ∧TJ.code.bE=true:=oF rfl (by kernel_rfl) WA
theorem aaI:aR.1 41=none∧aR.2 41=some TK∧TK.code.bE=true:=oF rfl (by kernel_rfl) WC
theorem aaJ:aR.1 42=none∧aR.2 42=some NS∧NS.code.bE=true:=oF rfl (by kernel_rfl) WG
theorem aaK:aR.1 43=none∧aR.2 43=some TL∧TL.code.bE=true:=oF rfl (by kernel_rfl) WJ
theorem aaL:aR.1 44=none∧aR.2 44=some Mq∧Mq.code.bE=true:=oF rfl (by kernel_rfl) WL
theorem aaM:aR.1 65=none∧aR.2 65=some NW∧NW.code.bE=true:=oF rfl (by kernel_rfl) WO
theorem aa9:aR.1 66=none∧aR.2 66=some TM∧TM.code.bE=true:=oF rfl (by kernel_rfl) WR
theorem abb:aR.1 67=none∧aR.2 67=some TN∧TN.code.bE=true:=oF rfl (by kernel_rfl) WT
theorem aaN:aR.1 68=none∧aR.2 68=some Mr∧Mr.code.bE=true:=oF rfl (by kernel_rfl) WV
theorem aaO:aR.1 69=none∧aR.2 69=some QG∧QG.code.bE=true:=oF rfl (by kernel_rfl) WX
theorem aaP:aR.1 70=none∧aR.2 70=some QI∧QI.code.bE=true:=oF rfl (by kernel_rfl) WZ
theorem abd:aR.1 71=none∧aR.2 71=some TP∧TP.code.bE=true:=oF rfl (by kernel_rfl) W_
theorem ZN:aR.1 72=none∧aR.2 72=some TQ∧TQ.code.bE=true:=oF rfl (by kernel_rfl) Xb
theorem aaQ:aR.1 73=none∧aR.2 73=some TR∧TR.code.bE=true:=oF rfl (by kernel_rfl) Xd
theorem aaR:aR.1 74=none∧aR.2 74=some TT∧TT.code.bE=true:=oF rfl (by kernel_rfl) Xf
theorem ZO:aR.1 75=none∧aR.2 75=some TU∧TU.code.bE=true:=oF rfl (by kernel_rfl) Xh
theorem aaS:aR.1 76=none∧aR.2 76=some QJ∧QJ.code.bE=true:=oF rfl (by kernel_rfl) Xj
theorem aaT:aR.1 77=none∧aR.2 77=some QL∧QL.code.bE=true:=oF rfl (by kernel_rfl) Xl
theorem aaU:aR.1 78=none∧aR.2 78=some Ky∧Ky.code.bE=true:=oF rfl (by kernel_rfl) Xn
theorem aaV:aR.1 79=none∧aR.2 79=some QO∧QO.code.bE=true:=oF rfl (by kernel_rfl) Xp
theorem aaW:aR.1 80=none∧aR.2 80=some Od∧Od.code.bE=true:=oF rfl (by kernel_rfl) Xr
theorem aa5:aR.1 100=none∧aR.2 100=some Ms∧Ms.code.bE=true:=oF rfl (by kernel_rfl) TW
theorem ZP:aR.1 101=none∧aR.2 101=some Gi∧Gi.code.bE=true:=oF rfl (by kernel_rfl) T9
theorem ZQ:aR.1 102=none∧aR.2 102=some Mt∧Mt.code.bE=true:=oF rfl (by kernel_rfl) Ua
theorem ZR:aR.1 103=none∧aR.2 103=some JF∧JF.code.bE=true:=oF rfl (by kernel_rfl) Uc
theorem ZT:aR.1 104=none∧aR.2 104=some Mv∧Mv.code.bE=true:=oF rfl (by kernel_rfl) Ue
theorem ZU:aR.1 105=none∧aR.2 105=some Mw∧Mw.code.bE=true:=oF rfl (by kernel_rfl) Ug
theorem ZV:aR.1 106=none∧aR.2 106=some Gj∧Gj.code.bE=true:=oF rfl (by kernel_rfl) Ui
theorem ZW:aR.1 107=none∧aR.2 107=some JG∧JG.code.bE=true:=oF rfl (by kernel_rfl) Uk
theorem ZX:aR.1 108=none∧aR.2 108=some Mx∧Mx.code.bE=true:=oF rfl (by kernel_rfl) Um
theorem ZY:aR.1 121=none∧aR.2 121=some Et∧Et.code.bE=true:=oF rfl (by kernel_rfl) Uo
theorem Z0:aR.1 122=none∧aR.2 122=some MB∧MB.code.bE=true:=oF rfl (by kernel_rfl) Ur
theorem Z4:aR.1 123=none∧aR.2 123=some JH∧JH.code.bE=true:=oF rfl (by kernel_rfl) Ut
theorem Z5:aR.1 124=none∧aR.2 124=some MC∧MC.code.bE=true:=oF rfl (by kernel_rfl) Uv
theorem Z6:aR.1 130=none∧aR.2 130=some JI∧JI.code.bE=true:=oF rfl (by kernel_rfl) Ux
theorem Z7:aR.1 131=none∧aR.2 131=some ME∧ME.code.bE=true:=oF rfl (by kernel_rfl) Uz
def wBL:List (Nat×Bt):=[(66,.clip 1),(67,.clone 1 1),(71,.clip 1),(100,.grow 1 1)]
def wB:FuncId→Option Bt:=JJ wBL
theorem YJ(d:Nat):∀p∈wBL,Nv (aI aR (d+1)) p.1 p.2 :=
 aB.2 ⟨L9 rfl (show aR.2 66=some (Jr 1)by kernel_rfl),aB.2 ⟨Qo (zero:=[(.int .u8 0)]) rfl (show aR.2 67=some (yK 1 1 [(.int .u8 0)])by kernel_rfl),aB.2 ⟨L9 rfl (show aR.2 71=some (Jr 1)by kernel_rfl),aB.2 ⟨SQ (zero:=[(.int .u8 0)]) rfl rfl (show aR.2 100=some (Js 1 1 [(.int .u8 0)])by kernel_rfl),(λ_ h=>by cases h)⟩⟩⟩⟩
theorem Ah(d:Nat):∀f b,wB f=some b→Nv (aI aR (d+1)) f b:=λf b h=>YJ d (f,b) (zP h)
def yU :Option (Int) :=
 some 0
def Cr(r:Int):AV×WH:=((.ptr (some (0,0))),[(some (.cells [(.slice none 1 0 0 true),(.int .i64 r)] false false))])
theorem Gm(d:Nat) {r:Int}(h:yU=some r):Spec (aI aR (d+1)) 16 [] [] (Cr r).1 (Cr r).2:=by
 unfold yU at h
 exact bC nB aar h (Fn Fo [] none)
def qF(bH:Int):Option (List UInt8) :=
 gd (dS 1 0) (some ([]:List UInt8))
def qZ(bH:Int)(r:List UInt8):AV×WH:=((jl r),[(some (.cells [(.slice none 1 0 0 true),(.int .i64 bH)] false false))])
theorem Ct(d:Nat){bH:Int}{r:List UInt8}(h:qF bH=some r):Spec (aI aR (d+2)) 20 [(.ptr (some (0,0)))] [(some (.cells [(.slice none 1 0 0 true),(.int .i64 bH)] false false))] (qZ bH r).1 (qZ bH r).2:=by
 unfold qF at h
 exact bC (Ah _) ZJ h (.gd λq1=>.ob q1<|Fn Fo [] none)
def qb(c:UInt8):Option (Bool) :=
 some (((pY (wI .u8 (c.toNat:Int) 128)).toNat:Int)==0)
def xL(c:UInt8)(r:Bool):AV×WH:=((.bool r),[])
theorem Ic(d:Nat){c:UInt8}{r:Bool}(h:qb c=some r):Spec (aI aR (d+1)) 131 [(.int .u8 (c.toNat:Int))] [] (xL c r).1 (xL c r).2:=by
 unfold qb at h
 exact bC nB Z7 h (.v 4 (.int .u8 ((pY (wI .u8 (c.toNat:Int) 128)).toNat:Int))<|.ob (XV rfl:@Eq (Option AV) (some (.int .u8 (wI .u8 (c.toNat:Int) 128))) (some (.int .u8 ((pY (wI .u8 (c.toNat:Int) 128)).toNat:Int))))<|Fn Fo [] none)
def dK(a0:List UInt8)(s3:Int):List AV×WH:=([(jl a0),(.func 131 []),(.int .i64 (a0.length:Int)),(.int .i64 s3)],[])
def eY(a0:List UInt8):Int⊕Unit→Ex×Fast×WH:=fun
 |.inl e=>(.ret,[(4,(.int .i64 e))],[])
 |.inr e=>((.exit 0),[],[])
abbrev nQ(a0:List UInt8):=cZ [0,1,7,8] (dK a0) (eY a0)
def bY(a0:List UInt8)(s3:Int):Option ((Int)⊕(Int⊕Unit)) :=
 cond (decide (s3<(a0.length:Int))) ((iW a0 s3).bind λ(x4:UInt8)=>(qb x4).bind λ(x5:Bool)=>cond x5 (some (.inr (.inl s3))) (some (.inl (IntKind.i64.wrap (s3+1))))) (some (.inr (.inr ())))
def fV(a0:List UInt8)(s3:Int):Option (Int⊕Unit):=dw (bY a0) KK s3
theorem oG(d:Nat){a0:List UInt8}{s3:Int}{r:(Int)⊕(Int⊕Unit)}(h:bY a0 s3=some r):dF (bf (aI aR (d+1)) KK 19 KI) 0 (oz [0,1,7,8] (dK a0 s3)) (nQ a0 r):=by
 unfold bY at h
 exact bW nB Ou h (.br 9 (λ_=>.bd λx4 q4=>Ix oL 14 q4<|.bd λx5 q5=>EJ (Ic (d+0) q5)<|.br 16 (λ_=>E0 [4]) λ_=>E0 [0,1,7,8]) λ_=>E0 [])
theorem jk(d:Nat){a0:List UInt8}{s3:Int}{r:Int⊕Unit}(h:fV a0 s3=some r):dF (fF (bf (aI aR (d+1)) KK 19 KI) [0,1,7,8] KK) 0 (oz [0,1,7,8] (dK a0 s3)) (eY a0 r) :=
 dA (st:=dK a0) (fin:=eY a0) (step:=bY a0) (λe=>by rcases e with e | e<;>(intro h;cases h)) (λs x h=>oG d h) KK s3 r h
def dQ(a0:List UInt8):Option (Int) :=
 (fV a0 0).bind λ(x6:Int⊕Unit)=>cond (qw x6) (some (zV x6)) (some (-1))
def jB(a0:List UInt8)(r:Int):AV×WH:=((.int .i64 r),[])
theorem qG(d:Nat){a0:List UInt8}{r:Int}(h:dQ a0=some r):Spec (aI aR (d+2)) 130 [(jl a0),(.func 131 [])] [] (jB a0 r).1 (jB a0 r).2:=by
 unfold dQ at h
 exact bC nB Z6 h (.bd λx6 q6=>.ite (λOv=>Lp [none,none,none,none] [] [] (uW (il Ov) (jk (d+0) q6))<|Fn Fo [] none) λOv=>Lp [none,none,none,none] [] [] (uW (H_ Ov) (jk (d+0) q6))<|Fn Fo [] none)
abbrev EL(x1:Int)(aU:List UInt8):Fast×WH:=([(0,(jl aU)),(2,(.int .i64 0)),(5,(.int .i64 x1))],[])
def DT(x1:Int)(aU:List UInt8):Unit⊕Unit→Ex×Fast×WH:=fun
 |.inl e=>(.ret,[(2,(.int .i64 0)),(3,(.int .i64 0)),(4,(.int .i64 2))],[])
 |.inr e=>(.normal,[(0,(jl aU)),(2,(.int .i64 0)),(5,(.int .i64 x1))],[])
def nR(x1:Int)(aU:List UInt8):Option (Unit⊕Unit) :=
 cond (decide (x1≥9)) (some (.inl ())) (cond (decide (x1>0)) ((iW aU x1).bind λ(x2:UInt8)=>cond ((x2.toNat:Int)==0) (some (.inl ())) (some (.inr ()))) (some (.inr ())))
theorem yV(d:Nat){x1:Int}{aU:List UInt8}{r:Unit⊕Unit}(h:nR x1 aU=some r):dF (bf (aI aR (d+0)) KK 47 Gl) 0 (EL x1 aU) (DT x1 aU r):=by
 unfold nR at h
 exact bW nB Ib h (.br 13 (λ_=>E0 [2,3,4]) λ_=>.br 16 (λ_=>.bd λx2 q2=>Ix oL 19 q2<|.br 23 (λ_=>E0 [2,3,4]) λ_=>E0 [0,2,5]) λ_=>E0 [0,2,5])
def mE(aU:List UInt8)(x1:Int)(s6:Int×Int):List AV×WH:=([(jl aU),(.int .i64 s6.1),(.int .i64 x1),(.int .i64 s6.2)],[])
def o9(aU:List UInt8)(x1:Int):Int→Ex×Fast×WH:=λe=>((.exit 0),[(2,(.int .i64 e)),(5,(.int .i64 x1))],[])
abbrev EM(aU:List UInt8)(x1:Int):=cZ [0,2,5,6] (mE aU x1) (o9 aU x1)
def kR(aU:List UInt8)(x1:Int)(s6:Int×Int):Option ((Int×Int)⊕(Int)) :=
 cond (decide (s6.2≥0)) ((iW aU s6.2).bind λ(x7:UInt8)=>some (.inl ((Vq .i64 (Vs .i64 s6.1 7) (IntKind.i64.wrap ((pY (wI .u8 (x7.toNat:Int) 127)).toNat:Int))),(IntKind.i64.wrap (s6.2-1))))) (some (.inr s6.1))
def rF(aU:List UInt8)(x1:Int)(s6:Int×Int):Option (Int):=dw (kR aU x1) KK s6
theorem Gn(d:Nat){aU:List UInt8}{x1:Int}{s6:Int×Int}{r:(Int×Int)⊕(Int)}(h:kR aU x1 s6=some r):dF (bf (aI aR (d+0)) KK 47 KG) 0 (oz [0,2,5,6] (mE aU x1 s6)) (EM aU x1 r):=by
 unfold kR at h
 exact bW nB Oq h (.br 26 (λ_=>.bd λx7 q7=>Ix oL 33 q7<|.v 35 (.int .u8 ((pY (wI .u8 (x7.toNat:Int) 127)).toNat:Int))<|.ob (XV rfl:@Eq (Option AV) (some (.int .u8 (wI .u8 (x7.toNat:Int) 127))) (some (.int .u8 ((pY (wI .u8 (x7.toNat:Int) 127)).toNat:Int))))<|E0 [0,2,5,6]) λ_=>E0 [2,5])
theorem Gp(d:Nat){aU:List UInt8}{x1:Int}{s6:Int×Int}{r:Int}(h:rF aU x1 s6=some r):dF (fF (bf (aI aR (d+0)) KK 47 KG) [0,2,5,6] KK) 0 (oz [0,2,5,6] (mE aU x1 s6)) (o9 aU x1 r) :=
 dA (st:=mE aU x1) (fin:=o9 aU x1) (step:=kR aU x1) (λe=>by(intro h;cases h)) (λs x h=>Gn d h) KK s6 r h
abbrev EN(x8:Int)(x1:Int):Fast×WH:=([(2,(.int .i64 x8)),(5,(.int .i64 x1))],[])
def DU(x8:Int)(x1:Int):Unit⊕Unit→Ex×Fast×WH:=fun
 |.inl e=>(.ret,[(2,(.int .i64 0)),(3,(.int .i64 0)),(4,(.int .i64 2))],[])
 |.inr e=>(.normal,[(2,(.int .i64 x8)),(5,(.int .i64 x1))],[])
def rG(x8:Int)(x1:Int):Option (Unit⊕Unit) :=
 cond (decide (x8<0)) (some (.inl ())) (cond (decide (x8>4611686018427387903)) (some (.inl ())) (some (.inr ())))
theorem yX(d:Nat){x8:Int}{x1:Int}{r:Unit⊕Unit}(h:rG x8 x1=some r):dF (bf (aI aR (d+0)) KK 47 Cq) 0 (EN x8 x1) (DU x8 x1 r):=by
 unfold rG at h
 exact bW nB EK h (.br 40 (λ_=>E0 [2,3,4]) λ_=>.br 43 (λ_=>E0 [2,3,4]) λ_=>E0 [2,5])
def vG(aU:List UInt8):Option (Int×Int×Int) :=
 (dQ aU).bind λ(x1:Int)=>cond (decide (x1<0)) (some (0,0,3)) ((nR x1 aU).bind λ(x3:Unit⊕Unit)=>cond (qw x3) (some (0,0,2)) ((rF aU x1 (0,x1)).bind λ(x8:Int)=>(rG x8 x1).bind λ(x9:Unit⊕Unit)=>cond (qw x9) (some (0,0,2)) (some (x8,(IntKind.i64.wrap (x1+1)),0))))
def Ai(aU:List UInt8)(r:Int×Int×Int):AV×WH:=((.tuple [(.int .i64 r.1),(.int .i64 r.2.1),(.int .i64 r.2.2)]),[])
theorem MF(d:Nat){aU:List UInt8}{r:Int×Int×Int}(h:vG aU=some r):Spec (aI aR (d+3)) 121 [(jl aU)] [] (Ai aU r).1 (Ai aU r).2:=by
 unfold vG at h
 exact bC nB ZY h (.bd λx1 q1=>EJ (qG (d+0) q1)<|.br 10 (λ_=>Fn Fo [] none) λ_=>.bd λx3 q3=>.ite (λhb4=>Jn [0,2,5] [none,none,none] [] [] (uW (il hb4) (yV (d+2) q3))<|Fn Fo [] none) λhb4=>Jn [0,2,5] [none,none,none] [] [] (uW (H_ hb4) (yV (d+2) q3))<|.bd λx8 q8=>Lp [none,none,none,none] [] [] (Gp (d+2) q8)<|.bd λx9 q9=>.ite (λYK=>Jn [2,5] [none,none] [] [] (uW (il YK) (yX (d+2) q9))<|Fn Fo [] none) λYK=>Jn [2,5] [none,none] [] [] (uW (H_ YK) (yX (d+2) q9))<|Fn Fo [] none)
def Cu(aU:List UInt8):Option (List UInt8) :=
 gd (dS 1 aU.length) (some aU)
def Cv(aU:List UInt8)(r:List UInt8):AV×WH:=((jl r),[])
theorem Ow(d:Nat){aU:List UInt8}{r:List UInt8}(h:Cu aU=some r):Spec (aI aR (d+2)) 122 [(jl aU)] [] (Cv aU r).1 (Cv aU r).2:=by
 unfold Cu at h
 exact bC (Ah _) Z0 h (.gd λq1=>.ob q1<|Fn Fo [] none)
def vH(aU:List UInt8):Option (Int×List UInt8×Int) :=
 (vG aU).bind λ(x1:Int×Int×Int)=>cond (x1.2.2 != 0) (some (0,[],x1.2.2)) ((yL aU x1.2.1 aU.length).bind λ(x2:List UInt8)=>(Cu x2).bind λ(x3:List UInt8)=>some (x1.1,x3,0))
def Aj(aU:List UInt8)(r:Int×List UInt8×Int):AV×WH:=((.tuple [(.int .i64 r.1),(jl r.2.1),(.int .i64 r.2.2)]),[])
theorem MG(d:Nat){aU:List UInt8}{r:Int×List UInt8×Int}(h:vH aU=some r):Spec (aI aR (d+4)) 102 [(jl aU)] [] (Aj aU r).1 (Aj aU r).2:=by
 unfold vH at h
 exact bC nB ZQ h (.bd λx1 q1=>EJ (MF (d+0) q1)<|.br 13 (λ_=>Fn Fo [] none) λ_=>.bd λx2 q2=>Sl oL 18 q2<|.bd λx3 q3=>Cl [] Fo [] (Ow (d+1) q3)<|Fn Fo [] none)
def nS(x8:List UInt8)(parts:List (List UInt8))(s7:Int×Int)(s11:Int×Int):List AV×WH:=([(.int .u64 s11.1),(XZ parts),(.int .i64 (parts.length:Int)),(.int .i64 s7.2),(.acc 0 0 1 x8.length true),(.int .i64 (x8.length:Int)),(.int .i64 s11.2)],[(some (.cells (gZ x8) false true))])
def qH(x8:List UInt8)(parts:List (List UInt8))(s7:Int×Int):Int→Ex×Fast×WH:=λe=>((.exit 2),[(3,(.int .u64 e)),(8,(XZ parts)),(9,(.int .i64 (parts.length:Int))),(10,(.int .i64 s7.2))],[])
abbrev Gq(x8:List UInt8)(parts:List (List UInt8))(s7:Int×Int):=cZ [3,8,9,10,15,16,17] (nS x8 parts s7) (qH x8 parts s7)
def kg(x8:List UInt8)(parts:List (List UInt8))(s7:Int×Int)(s11:Int×Int):Option ((Int×Int)⊕(Int)) :=
 cond (decide (s11.2<(x8.length:Int))) ((iW x8 s11.2).bind λ(nT:UInt8)=>some (.inl ((IntKind.u64.wrap ((Vr .u64 s11.1 (IntKind.u64.wrap (nT.toNat:Int)))*1099511628211)),(IntKind.i64.wrap (s11.2+1))))) (some (.inr s11.1))
def yY(x8:List UInt8)(parts:List (List UInt8))(s7:Int×Int)(s11:Int×Int):Option (Int):=dw (kg x8 parts s7) KK s11
theorem Ie(d:Nat){x8:List UInt8}{parts:List (List UInt8)}{s7:Int×Int}{s11:Int×Int}{r:(Int×Int)⊕(Int)}(h:kg x8 parts s7 s11=some r):dF (bf (aI aR (d+0)) KK 32 KA) 0 (oz [3,8,9,10,15,16,17] (nS x8 parts s7 s11)) (Gq x8 parts s7 r):=by
 unfold kg at h
 exact bW nB Oi h (.br 18 (λ_=>.bd λnT KJ=>Ia oL 19 0 KJ<|Ld oL 20 false 1 0 KJ (.int .u8 (nT.toNat:Int)) rfl<|E0 [3,8,9,10,15,16,17]) λ_=>E0 [3,8,9,10])
theorem Ig(d:Nat){x8:List UInt8}{parts:List (List UInt8)}{s7:Int×Int}{s11:Int×Int}{r:Int}(h:yY x8 parts s7 s11=some r):dF (fF (bf (aI aR (d+0)) KK 32 KA) [3,8,9,10,15,16,17] KK) 0 (oz [3,8,9,10,15,16,17] (nS x8 parts s7 s11)) (qH x8 parts s7 r) :=
 dA (st:=nS x8 parts s7) (fin:=qH x8 parts s7) (step:=kg x8 parts s7) (λe=>by(intro h;cases h)) (λs x h=>Ie d h) KK s11 r h
def nU(parts:List (List UInt8))(s7:Int×Int):List AV×WH:=([(.int .u64 s7.1),(XZ parts),(.int .i64 (parts.length:Int)),(.int .i64 s7.2)],[])
def qI(parts:List (List UInt8)):Int→Ex×Fast×WH:=λe=>((.exit 0),[(3,(.int .u64 e))],[])
abbrev Gs(parts:List (List UInt8)):=cZ [3,8,9,10] (nU parts) (qI parts)
def kr(parts:List (List UInt8))(s7:Int×Int):Option ((Int×Int)⊕(Int)) :=
 cond (decide (s7.2<(parts.length:Int))) ((iW parts s7.2).bind λ(x8:List UInt8)=>gd (decide (x8.length≤70368744177664)) ((yY x8 parts s7 (s7.1,0)).bind λ(M4:Int)=>some (.inl ((IntKind.u64.wrap ((Vr .u64 M4 256)*1099511628211)),(IntKind.i64.wrap (s7.2+1)))))) (some (.inr s7.1))
def yZ(parts:List (List UInt8))(s7:Int×Int):Option (Int):=dw (kr parts) KK s7
theorem Ih(d:Nat){parts:List (List UInt8)}{s7:Int×Int}{r:(Int×Int)⊕(Int)}(h:kr parts s7=some r):dF (bf (aI aR (d+0)) KK 32 Kz) 0 (oz [3,8,9,10] (nU parts s7)) (Gs parts r):=by
 unfold kr at h
 exact bW nB Oh h (.br 11 (λ_=>.bd λx8 q8=>Ix R_S 12 q8<|.gd λq9=>.ob (of_decide_eq_true q9:x8.length≤70368744177664)<|.bd λM4 YL=>Lp [none,none,none,none,none,none,none] [] [] (Ig (d+0) YL)<|E0 [3,8,9,10]) λ_=>E0 [3])
theorem Ii(d:Nat){parts:List (List UInt8)}{s7:Int×Int}{r:Int}(h:yZ parts s7=some r):dF (fF (bf (aI aR (d+0)) KK 32 Kz) [3,8,9,10] KK) 0 (oz [3,8,9,10] (nU parts s7)) (qI parts r) :=
 dA (st:=nU parts) (fin:=qI parts) (step:=kr parts) (λe=>by(intro h;cases h)) (λs x h=>Ih d h) KK s7 r h
def y5(parts:List (List UInt8)):Option (Int) :=
 (yZ parts (14695981039346656037,0)).bind λ(MH:Int)=>some MH
def Cw(parts:List (List UInt8))(r:Int):AV×WH:=((.int .u64 r),[])
theorem Ox(d:Nat){parts:List (List UInt8)}{r:Int}(h:y5 parts=some r):Spec (aI aR (d+1)) 101 [(XZ parts)] [] (Cw parts r).1 (Cw parts r).2:=by
 unfold y5 at h
 exact bC nB ZP h (.bd λMH QV=>Lp [none,none,none,none] [] [] (Ii (d+0) QV)<|Fn Fo [] none)
def mF(x1:Int)(s6:Int×List UInt8):List AV×WH:=([(.int .u64 x1),(.acc 0 0 1 s6.2.length true),(.int .i64 s6.1)],[(some (.cells (gZ s6.2) false true))])
def o_(x1:Int):(List UInt8)→Ex×Fast×WH:=λe=>((.exit 0),[(4,(.acc 0 0 1 e.length true))],[(some (.cells (gZ e) false true))])
abbrev EO(x1:Int):=cZ [3,4,10] (mF x1) (o_ x1)
def jC(x1:Int)(s6:Int×List UInt8):Option ((Int×List UInt8)⊕((List UInt8))) :=
 cond (decide (s6.1<8)) ((SV .u64 x1 (IntKind.i64.wrap (8*(IntKind.i64.wrap (7-s6.1))))).bind λ(x7:Int)=>gd (dS 1 (s6.2++[(pY x7)]).length) (some (.inl ((IntKind.i64.wrap (s6.1+1)),(s6.2++[(pY x7)]))))) (some (.inr s6.2))
def wR(x1:Int)(s6:Int×List UInt8):Option ((List UInt8)):=dw (jC x1) KK s6
theorem Gt(d:Nat){x1:Int}{s6:Int×List UInt8}{r:(Int×List UInt8)⊕((List UInt8))}(h:jC x1 s6=some r):dF (bf (aI aR (d+0)) KK 24 N9) 0 (oz [3,4,10] (mF x1 s6)) (EO x1 r):=by
 unfold jC at h
 exact bW nB QH h (.br 11 (λ_=>.bd λx7 q7=>.v 18 (.int .u64 x7)<|.ob (YD q7:ED .shr (.int .u64 x1) (.int .i64 (IntKind.i64.wrap (8*(IntKind.i64.wrap (7-s6.1)))))=some (.int .u64 x7))<|.v 19 (.int .u8 ((pY x7).toNat:Int))<|.ob (NG _:@Eq (Option AV) (some (.int .u8 (IntKind.u8.wrap x7))) (some (.int .u8 ((pY x7).toNat:Int))))<|.gd λq8=>Ap oL 21 q8<|E0 [3,4,10]) λ_=>E0 [4])
theorem Gu(d:Nat){x1:Int}{s6:Int×List UInt8}{r:(List UInt8)}(h:wR x1 s6=some r):dF (fF (bf (aI aR (d+0)) KK 24 N9) [3,4,10] KK) 0 (oz [3,4,10] (mF x1 s6)) (o_ x1 r) :=
 dA (st:=mF x1) (fin:=o_ x1) (step:=jC x1) (λe=>by(intro h;cases h)) (λs x h=>Gt d h) KK s6 r h
def sj(record:List UInt8):Option (List UInt8) :=
 (y5 [record]).bind λ(x1:Int)=>(wR x1 (0,[])).bind λ(x9:(List UInt8))=>some x9
def Ak(record:List UInt8)(r:List UInt8):AV×WH:=((jl r),[])
theorem Eu(d:Nat){record:List UInt8}{r:List UInt8}(h:sj record=some r):Spec (aI aR (d+2)) 69 [(jl record)] [] (Ak record r).1 (Ak record r).2:=by
 unfold sj at h
 exact bC nB aaO h (.v 7 (.str record)<|.ob (by rw[show gZ record=(record).map mg from rfl,fU];rfl:(dI (gZ record)).map AV.str=some (.str record))<|.bd λx1 q1=>EJ (Ox (d+0) q1)<|.bd λx9 q9=>Lp [none,Tw,none] [] [] (Gu (d+1) q9)<|Fn Fo [] none)
def eT(a0:List UInt8)(a1:List UInt8)(s3:Int):List AV×WH:=([(jl a0),(jl a1),(.int .i64 (a0.length:Int)),(.int .i64 s3)],[])
def fZ(a0:List UInt8)(a1:List UInt8):Unit⊕Unit→Ex×Fast×WH:=fun
 |.inl e=>(.ret,[(4,(.bool false))],[])
 |.inr e=>((.exit 0),[],[])
abbrev qJ(a0:List UInt8)(a1:List UInt8):=cZ [0,1,12,13] (eT a0 a1) (fZ a0 a1)
def dL(a0:List UInt8)(a1:List UInt8)(s3:Int):Option ((Int)⊕(Unit⊕Unit)) :=
 cond (decide (s3<(a0.length:Int))) ((iW a0 s3).bind λ(x4:UInt8)=>(iW a1 s3).bind λ(x5:UInt8)=>cond ((x4.toNat:Int) != (x5.toNat:Int)) (some (.inr (.inl ()))) (some (.inl (IntKind.i64.wrap (s3+1))))) (some (.inr (.inr ())))
def iM(a0:List UInt8)(a1:List UInt8)(s3:Int):Option (Unit⊕Unit):=dw (dL a0 a1) KK s3
theorem rJ(d:Nat){a0:List UInt8}{a1:List UInt8}{s3:Int}{r:(Int)⊕(Unit⊕Unit)}(h:dL a0 a1 s3=some r):dF (bf (aI aR (d+0)) KK 26 KC) 0 (oz [0,1,12,13] (eT a0 a1 s3)) (qJ a0 a1 r):=by
 unfold dL at h
 exact bW nB Oj h (.br 14 (λ_=>.bd λx4 q4=>Ix oL 18 q4<|.bd λx5 q5=>Ix oL 22 q5<|.br 24 (λ_=>E0 [4]) λ_=>E0 [0,1,12,13]) λ_=>E0 [])
theorem kH(d:Nat){a0:List UInt8}{a1:List UInt8}{s3:Int}{r:Unit⊕Unit}(h:iM a0 a1 s3=some r):dF (fF (bf (aI aR (d+0)) KK 26 KC) [0,1,12,13] KK) 0 (oz [0,1,12,13] (eT a0 a1 s3)) (fZ a0 a1 r) :=
 dA (st:=eT a0 a1) (fin:=fZ a0 a1) (step:=dL a0 a1) (λe=>by rcases e with e | e<;>(intro h;cases h)) (λs x h=>rJ d h) KK s3 r h
def fC(a0:List UInt8)(a1:List UInt8):Option (Bool) :=
 cond ((a0.length:Int) != (a1.length:Int)) (some false) ((iM a0 a1 0).bind λ(x6:Unit⊕Unit)=>cond (qw x6) (some false) (some true))
def kS(a0:List UInt8)(a1:List UInt8)(r:Bool):AV×WH:=((.bool r),[])
theorem uP(d:Nat){a0:List UInt8}{a1:List UInt8}{r:Bool}(h:fC a0 a1=some r):Spec (aI aR (d+1)) 103 [(jl a0),(jl a1)] [] (kS a0 a1 r).1 (kS a0 a1 r).2:=by
 unfold fC at h
 exact bC nB ZR h (.br 10 (λ_=>Fn Fo [] none) λ_=>.bd λx6 q6=>.ite (λOv=>Lp [none,none,none,none] [] [] (uW (il Ov) (kH (d+0) q6))<|Fn Fo [] none) λOv=>Lp [none,none,none,none] [] [] (uW (H_ Ov) (kH (d+0) q6))<|Fn Fo [] none)
abbrev EP(x2:Int×List UInt8×Int)(aU:List UInt8)(x3:List UInt8):Fast×WH:=([(0,(jl aU)),(5,(.int .i64 x2.1)),(7,(.int .i64 x2.2.2)),(8,(.int .i64 (IntKind.i64.wrap ((IntKind.i64.wrap ((x3.length:Int)-(x2.2.1.length:Int)))+8))))],[])
def DV(x2:Int×List UInt8×Int)(aU:List UInt8)(x3:List UInt8):Unit⊕Unit→Ex×Fast×WH:=fun
 |.inl e=>(.ret,[(2,(.slice none 1 0 0 true)),(3,(.int .i64 0)),(4,(.bool false))],[])
 |.inr e=>(.normal,[(0,(jl aU)),(5,(.int .i64 x2.1)),(8,(.int .i64 (IntKind.i64.wrap ((IntKind.i64.wrap ((x3.length:Int)-(x2.2.1.length:Int)))+8))))],[])
def dR(x2:Int×List UInt8×Int)(aU:List UInt8)(x3:List UInt8):Option (Unit⊕Unit) :=
 cond (x2.2.2 != 0) (some (.inl ())) (cond (decide (x2.1>4000)) (some (.inl ())) (cond (decide ((aU.length:Int)<(IntKind.i64.wrap ((IntKind.i64.wrap ((IntKind.i64.wrap ((x3.length:Int)-(x2.2.1.length:Int)))+8))+x2.1)))) (some (.inl ())) (some (.inr ()))))
theorem y7(d:Nat){x2:Int×List UInt8×Int}{aU:List UInt8}{x3:List UInt8}{r:Unit⊕Unit}(h:dR x2 aU x3=some r):dF (bf (aI aR (d+0)) KK 64 JE) 0 (EP x2 aU x3) (DV x2 aU x3 r):=by
 unfold dR at h
 exact bW nB Kw h (.br 31 (λ_=>E0 [2,3,4]) λ_=>.br 35 (λ_=>E0 [2,3,4]) λ_=>.br 42 (λ_=>E0 [2,3,4]) λ_=>E0 [0,5,8])
def vI(aU:List UInt8):Option (List UInt8×Int×Bool) :=
 (yL aU 0 (if (9:Int)<(aU.length:Int)then 9 else (aU.length:Int))).bind λ(x1:List UInt8)=>(vH x1).bind λ(x2:Int×List UInt8×Int)=>(yL aU 0 (if (9:Int)<(aU.length:Int)then 9 else (aU.length:Int))).bind λ(x3:List UInt8)=>(dR x2 aU x3).bind λ(x4:Unit⊕Unit)=>cond (qw x4) (some ([],0,false)) ((yL aU (IntKind.i64.wrap ((IntKind.i64.wrap ((x3.length:Int)-(x2.2.1.length:Int)))+8)) (IntKind.i64.wrap ((IntKind.i64.wrap ((IntKind.i64.wrap ((x3.length:Int)-(x2.2.1.length:Int)))+8))+x2.1))).bind λ(x6:List UInt8)=>(sj x6).bind λ(x7:List UInt8)=>(yL aU (IntKind.i64.wrap ((IntKind.i64.wrap ((IntKind.i64.wrap ((x3.length:Int)-(x2.2.1.length:Int)))+8))-8)) (IntKind.i64.wrap ((IntKind.i64.wrap ((x3.length:Int)-(x2.2.1.length:Int)))+8))).bind λ(x8:List UInt8)=>(fC x7 x8).bind λ(x9:Bool)=>cond (!x9) (some ([],0,false)) (gd (dS 1 x6.length) (some (x6,(IntKind.i64.wrap ((IntKind.i64.wrap ((IntKind.i64.wrap ((x3.length:Int)-(x2.2.1.length:Int)))+8))+x2.1)),true))))
def Al(aU:List UInt8)(r:List UInt8×Int×Bool):AV×WH:=((.tuple [(jl r.1),(.int .i64 r.2.1),(.bool r.2.2)]),[])
theorem MI(d:Nat){aU:List UInt8}{r:List UInt8×Int×Bool}(h:vI aU=some r):Spec (aI aR (d+5)) 70 [(jl aU)] [] (Al aU r).1 (Al aU r).2:=by
 unfold vI at h
 exact bC (Ah _) aaP h (.bd λx1 q1=>Si oL 14 q1<|.bd λx2 q2=>Cl [] Fo [] (MG (d+0) q2)<|.bd λx3 q3=>Si oL 23 q3<|.bd λx4 q4=>.ite (λhb5=>Jn [0,5,7,8] [none,none,none,none] [] [] (uW (il hb5) (y7 (d+4) q4))<|Fn Fo [] none) λhb5=>Jn [0,5,7,8] [none,none,none,none] [] [] (uW (H_ hb5) (y7 (d+4) q4))<|.bd λx6 q6=>Sb oL 48 q6<|.bd λx7 q7=>Cl [] Fo [] (Eu (d+2) q7)<|.bd λx8 q8=>Sb oL 55 q8<|.bd λx9 q9=>EJ (uP (d+3) q9)<|.br 57 (λ_=>Fn Fo [] none) λ_=>.gd λUD=>.ob UD<|Fn Fo [] none)
def lu(aU:List UInt8)(s7:Int×List (List UInt8)):List AV×WH:=([(jl aU),(.acc 0 0 1 s7.2.length true),(.int .i64 s7.1)],[(some (.cells (o8 s7.2) false true))])
def nV(aU:List UInt8):(Int×List (List UInt8))→Ex×Fast×WH:=λe=>(.ret,[(2,(.acc 0 0 1 e.2.length true)),(3,(.int .i64 e.1))],[(some (.cells (o8 e.2) false true))])
abbrev DW(aU:List UInt8):=cZ [0,2,3] (lu aU) (nV aU)
def gF(aU:List UInt8)(s7:Int×List (List UInt8)):Option ((Int×List (List UInt8))⊕((Int×List (List UInt8)))) :=
 (yL aU s7.1 aU.length).bind λ(x8:List UInt8)=>(vI x8).bind λ(x9:List UInt8×Int×Bool)=>cond (!x9.2.2) (some (.inr (s7.1,s7.2))) (gd (dS 24 (s7.2++[x9.1]).length) (some (.inl ((IntKind.i64.wrap (s7.1+x9.2.1)),(s7.2++[x9.1])))))
def uQ(aU:List UInt8)(s7:Int×List (List UInt8)):Option ((Int×List (List UInt8))):=dw (gF aU) KK s7
theorem ER(d:Nat){aU:List UInt8}{s7:Int×List (List UInt8)}{r:(Int×List (List UInt8))⊕((Int×List (List UInt8)))}(h:gF aU s7=some r):dF (bf (aI aR (d+5)) KK 27 NM) 0 (oz [0,2,3] (lu aU s7)) (DW aU r):=by
 unfold gF at h
 exact bW (Ah _) Qv h (.bd λx8 q8=>Sl oL 10 q8<|.bd λx9 q9=>Cl [] Fo [] (MI (d+0) q9)<|.br 16 (λ_=>E0 [2,3]) λ_=>.gd λUD=>Ap vB 23 UD<|E0 [0,2,3])
theorem ES(d:Nat){aU:List UInt8}{s7:Int×List (List UInt8)}{r:(Int×List (List UInt8))}(h:uQ aU s7=some r):dF (fF (bf (aI aR (d+5)) KK 27 NM) [0,2,3] KK) 0 (oz [0,2,3] (lu aU s7)) (nV aU r) :=
 dA (st:=lu aU) (fin:=nV aU) (step:=gF aU) (λe=>by(intro h;cases h)) (λs x h=>ER d h) KK s7 r h
def mP(aU:List UInt8):Option (List (List UInt8)×Int) :=
 (uQ aU (0,[])).bind λ(y8:(Int×List (List UInt8)))=>some (y8.2,y8.1)
def y9(aU:List UInt8)(r:List (List UInt8)×Int):AV×WH:=((.tuple [(jw r.1),(.int .i64 r.2)]),[])
theorem wS(d:Nat){aU:List UInt8}{r:List (List UInt8)×Int}(h:mP aU=some r):Spec (aI aR (d+6)) 27 [(jl aU)] [] (y9 aU r).1 (y9 aU r).2:=by
 unfold mP at h
 exact bC nB aaz h (.bd λy8 Oy=>Lp [none,Tw,none] [] [] (ES (d+0) Oy)<|Fn Fo [] none)
def sO(aU:List UInt8)(bH:Int):Option (Bool×Int×List UInt8) :=
 cond (decide ((aU.length:Int)>65536)) (some (false,bH,[])) (gd (dS 1 aU.length) (some (true,(aU.length:Int),aU)))
def fI(aU:List UInt8)(bH:Int)(r:Bool×Int×List UInt8):AV×WH:=((.bool r.1),[(some (.cells [(.acc 1 0 1 r.2.2.length true),(.int .i64 r.2.1)] false false)),(some (.cells (gZ r.2.2) false true))])
theorem DX(d:Nat){aU:List UInt8}{bH:Int}{r:Bool×Int×List UInt8}(h:sO aU bH=some r):Spec (aI aR (d+2)) 72 [(.ptr (some (0,0))),(jl aU)] [(some (.cells [(.slice none 1 0 0 true),(.int .i64 bH)] false false))] (fI aU bH r).1 (fI aU bH r).2:=by
 unfold sO at h
 exact bC (Ah _) ZN h (.br 7 (λ_=>.yC (.fin (some false) [] (some true)) _ (λr=>@Eq AV (.bool false) (fI aU bH r).1∧@Eq WH [(some (.cells [(.acc 1 0 1 0 true),(.int .i64 bH)] false false)),(some (.cells (gZ []) false true))] (fI aU bH r).2) (by show _∧_;refine⟨?_, ?_⟩<;>first | rfl |(simp only[fI,dH,aF,List.length_replicate,aY,fu,aJ,aO,Nat.add_zero,Nat.zero_add];done) | simp[fI])) λ_=>.gd λq1=>.ob q1<|.st none<|.st none<|Fn Fo [] Tw)
def ze(bH:Int):Option (Int×List UInt8) :=
 (qF bH).bind λ(x1:List UInt8)=>(mP x1).bind λ(x2:List (List UInt8)×Int)=>cond (decide (x2.2<(x1.length:Int))) ((yL x1 0 x2.2).bind λ(x3:List UInt8)=>(sO x3 bH).bind λ(x4:Bool×Int×List UInt8)=>some (x4.2.1,x4.2.2)) (some (bH,[]))
def lC(bH:Int)(r:Int×List UInt8):AV×WH:=((.ptr (some (1,0))),[(some (.cells [(.acc 2 0 1 r.2.length true),(.int .i64 r.1)] false false)),(some (.cells [(.ptr (some (0,0)))] false false)),(some (.cells (gZ r.2) false true))])
theorem Gv(d:Nat){bH:Int}{r:Int×List UInt8}(h:ze bH=some r):Spec (aI aR (d+7)) 30 [(.ptr (some (0,0)))] [(some (.cells [(.slice none 1 0 0 true),(.int .i64 bH)] false false))] (lC bH r).1 (lC bH r).2:=by
 unfold ze at h
 exact bC nB ZK h (.bd λx1 q1=>Db (Ct (d+4) q1)<|.bd λx2 q2=>Cl [] Fo [] (wS (d+0) q2)<|.br 18 (λ_=>.bd λx3 q3=>Si oL 22 q3<|.bd λx4 q4=>Db (DX (d+4) q4)<|Fn Fo [] Tw) λ_=>.yC (.fin (some false) [] (some true)) _ (λr=>@Eq AV (.ptr (some (1,0))) (lC bH r).1∧@Eq WH [(some (.cells [(.acc 2 0 1 0 true),(.int .i64 bH)] false false)),(some (.cells [(.ptr (some (0,0)))] false false)),(some (.cells (gZ []) false true))] (lC bH r).2) (by show _∧_;refine⟨?_, ?_⟩<;>first | rfl |(simp only[lC,dH,aF,List.length_replicate,aY,fu,aJ,aO,Nat.add_zero,Nat.zero_add];done) | simp[lC]))
def wT(p_r:List UInt8):Option (Bool) :=
 some (decide ((p_r.length:Int)>4000))
def zf(p_r:List UInt8)(r:Bool):AV×WH:=((.bool r),[])
theorem KL(d:Nat){p_r:List UInt8}{r:Bool}(h:wT p_r=some r):Spec (aI aR (d+1)) 105 [(jl p_r)] [] (zf p_r r).1 (zf p_r r).2:=by
 unfold wT at h
 exact bC nB ZU h (Fn Fo [] none)
def dh(a0:List (List UInt8))(s3:Int):List AV×WH:=([(jw a0),(.func 105 []),(.int .i64 (a0.length:Int)),(.int .i64 s3)],[])
def eH(a0:List (List UInt8)):Int⊕Unit→Ex×Fast×WH:=fun
 |.inl e=>(.ret,[(4,(.int .i64 e))],[])
 |.inr e=>((.exit 0),[],[])
abbrev mQ(a0:List (List UInt8)):=cZ [0,1,7,8] (dh a0) (eH a0)
def bR(a0:List (List UInt8))(s3:Int):Option ((Int)⊕(Int⊕Unit)) :=
 cond (decide (s3<(a0.length:Int))) ((iW a0 s3).bind λ(x4:List UInt8)=>(wT x4).bind λ(x5:Bool)=>cond x5 (some (.inr (.inl s3))) (some (.inl (IntKind.i64.wrap (s3+1))))) (some (.inr (.inr ())))
def fG(a0:List (List UInt8))(s3:Int):Option (Int⊕Unit):=dw (bR a0) KK s3
theorem ni(d:Nat){a0:List (List UInt8)}{s3:Int}{r:(Int)⊕(Int⊕Unit)}(h:bR a0 s3=some r):dF (bf (aI aR (d+1)) KK 19 KH) 0 (oz [0,1,7,8] (dh a0 s3)) (mQ a0 r):=by
 unfold bR at h
 exact bW nB Ot h (.br 9 (λ_=>.bd λx4 q4=>Ix vB 14 q4<|.bd λx5 q5=>EJ (KL (d+0) q5)<|.br 16 (λ_=>E0 [4]) λ_=>E0 [0,1,7,8]) λ_=>E0 [])
theorem iK(d:Nat){a0:List (List UInt8)}{s3:Int}{r:Int⊕Unit}(h:fG a0 s3=some r):dF (fF (bf (aI aR (d+1)) KK 19 KH) [0,1,7,8] KK) 0 (oz [0,1,7,8] (dh a0 s3)) (eH a0 r) :=
 dA (st:=dh a0) (fin:=eH a0) (step:=bR a0) (λe=>by rcases e with e | e<;>(intro h;cases h)) (λs x h=>ni d h) KK s3 r h
def dx(a0:List (List UInt8)):Option (Int) :=
 (fG a0 0).bind λ(x6:Int⊕Unit)=>cond (qw x6) (some (zV x6)) (some (-1))
def iZ(a0:List (List UInt8))(r:Int):AV×WH:=((.int .i64 r),[])
theorem pq(d:Nat){a0:List (List UInt8)}{r:Int}(h:dx a0=some r):Spec (aI aR (d+2)) 123 [(jw a0),(.func 105 [])] [] (iZ a0 r).1 (iZ a0 r).2:=by
 unfold dx at h
 exact bC nB Z4 h (.bd λx6 q6=>.ite (λOv=>Lp [none,none,none,none] [] [] (uW (il Ov) (iK (d+0) q6))<|Fn Fo [] none) λOv=>Lp [none,none,none,none] [] [] (uW (H_ Ov) (iK (d+0) q6))<|Fn Fo [] none)
def dW(a0:List (List UInt8)):Option (Bool) :=
 (dx a0).bind λ(x1:Int)=>some (decide (x1≥0))
def iL(a0:List (List UInt8))(r:Bool):AV×WH:=((.bool r),[])
theorem oH(d:Nat){a0:List (List UInt8)}{r:Bool}(h:dW a0=some r):Spec (aI aR (d+3)) 104 [(jw a0),(.func 105 [])] [] (iL a0 r).1 (iL a0 r).2:=by
 unfold dW at h
 exact bC nB ZT h (.bd λx1 q1=>EJ (pq (d+0) q1)<|Fn Fo [] none)
def qc(records:List (List UInt8)):Option (Bool) :=
 (dW records).bind λ(x1:Bool)=>some x1
def Cx(records:List (List UInt8))(r:Bool):AV×WH:=((.bool r),[])
theorem Gw(d:Nat){records:List (List UInt8)}{r:Bool}(h:qc records=some r):Spec (aI aR (d+4)) 73 [(jw records)] [] (Cx records r).1 (Cx records r).2:=by
 unfold qc at h
 exact bC nB aaQ h (.bd λx1 q1=>EJ (oH (d+0) q1)<|Fn Fo [] none)
abbrev Gx(y8:Int)(s10:Int×List UInt8)(n:List Int):Fast×WH:=([(5,(.acc 0 0 1 s10.2.length true)),(7,(.int .i64 y8)),(10,(UN n)),(11,(.int .i64 (n.length:Int))),(12,(.int .i64 s10.1))],[(some (.cells (gZ s10.2) false true))])
def ET(y8:Int)(s10:Int×List UInt8)(n:List Int):Unit⊕Unit→Ex×Fast×WH:=fun
 |.inl e=>(.ret,[(4,(.slice none 1 0 0 true))],[])
 |.inr e=>(.normal,[(5,(.acc 0 0 1 s10.2.length true)),(7,(.int .i64 y8)),(10,(UN n)),(11,(.int .i64 (n.length:Int))),(12,(.int .i64 s10.1))],[(some (.cells (gZ s10.2) false true))])
def kT(y8:Int)(s10:Int×List UInt8)(n:List Int):Option (Unit⊕Unit) :=
 cond (decide (y8<0)) (some (.inl ())) (cond (decide (y8>4611686018427387903)) (some (.inl ())) (some (.inr ())))
theorem Am(d:Nat){y8:Int}{s10:Int×List UInt8}{n:List Int}{r:Unit⊕Unit}(h:kT y8 s10 n=some r):dF (bf (aI aR (d+0)) KK 41 uF) 0 (Gx y8 s10 n) (ET y8 s10 n r):=by
 unfold kT at h
 exact bW nB yS h (.br 18 (λ_=>E0 [4]) λ_=>.br 21 (λ_=>E0 [4]) λ_=>E0 [5,7,10,11,12])
def nW(n:List Int)(s10:Int×List UInt8)(s15:Int×List UInt8):List AV×WH:=([(.acc 0 0 1 s15.2.length true),(.int .i64 s15.1),(UN n),(.int .i64 (n.length:Int)),(.int .i64 s10.1)],[(some (.cells (gZ s15.2) false true))])
def qK(n:List Int)(s10:Int×List UInt8):(Int×List UInt8)→Ex×Fast×WH:=λe=>((.exit 2),[(5,(.acc 0 0 1 e.2.length true)),(7,(.int .i64 e.1)),(10,(UN n)),(11,(.int .i64 (n.length:Int))),(12,(.int .i64 s10.1))],[(some (.cells (gZ e.2) false true))])
abbrev Gy(n:List Int)(s10:Int×List UInt8):=cZ [5,7,10,11,12] (nW n s10) (qK n s10)
def fP(n:List Int)(s10:Int×List UInt8)(s15:Int×List UInt8):Option ((Int×List UInt8)⊕((Int×List UInt8))) :=
 cond (decide (s15.1>127)) (gd (dS 1 (s15.2++[(pY (Vq .i64 (wI .i64 s15.1 127) 128))]).length) (some (.inl ((Yx .i64 s15.1 7),(s15.2++[(pY (Vq .i64 (wI .i64 s15.1 127) 128))]))))) (some (.inr (s15.1,s15.2)))
def zh(n:List Int)(s10:Int×List UInt8)(s15:Int×List UInt8):Option ((Int×List UInt8)):=dw (fP n s10) KK s15
theorem Ij(d:Nat){n:List Int}{s10:Int×List UInt8}{s15:Int×List UInt8}{r:(Int×List UInt8)⊕((Int×List UInt8))}(h:fP n s10 s15=some r):dF (bf (aI aR (d+0)) KK 41 N8) 0 (oz [5,7,10,11,12] (nW n s10 s15)) (Gy n s10 r):=by
 unfold fP at h
 exact bW nB QF h (.br 23 (λ_=>.v 28 (.int .u8 ((pY (Vq .i64 (wI .i64 s15.1 127) 128)).toNat:Int))<|.ob (NG _:@Eq (Option AV) (some (.int .u8 (IntKind.u8.wrap (Vq .i64 (wI .i64 s15.1 127) 128)))) (some (.int .u8 ((pY (Vq .i64 (wI .i64 s15.1 127) 128)).toNat:Int))))<|.gd λq16=>Ap oL 30 q16<|E0 [5,7,10,11,12]) λ_=>E0 [5,7,10,11,12])
theorem Ik(d:Nat){n:List Int}{s10:Int×List UInt8}{s15:Int×List UInt8}{r:(Int×List UInt8)}(h:zh n s10 s15=some r):dF (fF (bf (aI aR (d+0)) KK 41 N8) [5,7,10,11,12] KK) 0 (oz [5,7,10,11,12] (nW n s10 s15)) (qK n s10 r) :=
 dA (st:=nW n s10) (fin:=qK n s10) (step:=fP n s10) (λe=>by(intro h;cases h)) (λs x h=>Ij d h) KK s15 r h
def nX(n:List Int)(s10:Int×List UInt8):List AV×WH:=([(.acc 0 0 1 s10.2.length true),(UN n),(.int .i64 (n.length:Int)),(.int .i64 s10.1)],[(some (.cells (gZ s10.2) false true))])
def qL(n:List Int):Unit⊕(List UInt8)→Ex×Fast×WH:=fun
 |.inl e=>(.ret,[(4,(.slice none 1 0 0 true))],[])
 |.inr e=>((.exit 0),[(5,(.acc 0 0 1 e.length true))],[(some (.cells (gZ e) false true))])
abbrev Gz(n:List Int):=cZ [5,10,11,12] (nX n) (qL n)
def mh(n:List Int)(s10:Int×List UInt8):Option ((Int×List UInt8)⊕(Unit⊕(List UInt8))) :=
 cond (decide (s10.1<(n.length:Int))) ((iW n s10.1).bind λ(y8:Int)=>(kT y8 s10 n).bind λ(nT:Unit⊕Unit)=>cond (qw nT) (some (.inr (.inl ()))) ((zh n s10 (y8,s10.2)).bind λ(xM:(Int×List UInt8))=>gd (dS 1 (xM.2++[(pY xM.1)]).length) (some (.inl ((IntKind.i64.wrap (s10.1+1)),(xM.2++[(pY xM.1)])))))) (some (.inr (.inr s10.2)))
def zi(n:List Int)(s10:Int×List UInt8):Option (Unit⊕(List UInt8)):=dw (mh n) KK s10
theorem Il(d:Nat){n:List Int}{s10:Int×List UInt8}{r:(Int×List UInt8)⊕(Unit⊕(List UInt8))}(h:mh n s10=some r):dF (bf (aI aR (d+0)) KK 41 N7) 0 (oz [5,10,11,12] (nX n s10)) (Gz n r):=by
 unfold mh at h
 exact bW nB QE h (.br 13 (λ_=>.bd λy8 Oy=>Ix R_I 14 Oy<|.bd λnT KJ=>.ite (λGA=>Jn [5,7,10,11,12] [none,none,none,none,none] [] [] (uW (il GA) (Am (d+0) KJ))<|E0 [4]) λGA=>Jn [5,7,10,11,12] [none,none,none,none,none] [] [] (uW (H_ GA) (Am (d+0) KJ))<|.bd λxM Rj=>Lp [none,none,none,none,none] [] [] (Ik (d+0) Rj)<|.v 35 (.int .u8 ((pY xM.1).toNat:Int))<|.ob (NG _:@Eq (Option AV) (some (.int .u8 (IntKind.u8.wrap xM.1))) (some (.int .u8 ((pY xM.1).toNat:Int))))<|.gd λX4=>Ap oL 37 X4<|E0 [5,10,11,12]) λ_=>E0 [5])
theorem Ao(d:Nat){n:List Int}{s10:Int×List UInt8}{r:Unit⊕(List UInt8)}(h:zi n s10=some r):dF (fF (bf (aI aR (d+0)) KK 41 N7) [5,10,11,12] KK) 0 (oz [5,10,11,12] (nX n s10)) (qL n r) :=
 dA (st:=nX n) (fin:=qL n) (step:=mh n) (λe=>by rcases e with e | e<;>(intro h;cases h)) (λs x h=>Il d h) KK s10 r h
def zl(aU:List UInt8)(n:List Int):Option (List UInt8) :=
 gd (dS 1 aU.length) ((zi n (0,aU)).bind λ(UO:Unit⊕(List UInt8))=>cond (qw UO) (some []) (some (qC UO)))
def Cy(aU:List UInt8)(n:List Int)(r:List UInt8):AV×WH:=((jl r),[])
theorem Oz(d:Nat){aU:List UInt8}{n:List Int}{r:List UInt8}(h:zl aU n=some r):Spec (aI aR (d+2)) 68 [(jl aU),(UN n)] [] (Cy aU n r).1 (Cy aU n r).2:=by
 unfold zl at h
 exact bC (Ah _) aaN h (.gd λq1=>.ob q1<|.bd λUO Y6=>.ite (λYM=>Lp [none,none,none,none] [] [] (uW (il YM) (Ao (d+1) Y6))<|Fn Fo [] none) λYM=>Lp [none,none,none,none] [] [] (uW (H_ YM) (Ao (d+1) Y6))<|Fn Fo [] none)
def dX(a0:List (List UInt8))(s2:Int×Int):List AV×WH:=([(jw a0),(.int .i64 s2.1),(jw a0),(.int .i64 (a0.length:Int)),(.int .i64 s2.2)],[])
def fJ(a0:List (List UInt8)):Int→Ex×Fast×WH:=λe=>((.exit 0),[(0,(jw a0)),(3,(.int .i64 e))],[])
abbrev qd(a0:List (List UInt8)):=cZ [0,3,9,10,11] (dX a0) (fJ a0)
def bS(a0:List (List UInt8))(s2:Int×Int):Option ((Int×Int)⊕(Int)) :=
 cond (decide (s2.2<(a0.length:Int))) ((iW a0 s2.2).bind λ(x3:List UInt8)=>cond (decide ((IntKind.i64.wrap (s2.1+(x3.length:Int)))<0)) (none) (some (.inl ((IntKind.i64.wrap (s2.1+(x3.length:Int))),(IntKind.i64.wrap (s2.2+1)))))) (some (.inr s2.1))
def iF(a0:List (List UInt8))(s2:Int×Int):Option (Int):=dw (bS a0) KK s2
theorem qM(d:Nat){a0:List (List UInt8)}{s2:Int×Int}{r:(Int×Int)⊕(Int)}(h:bS a0 s2=some r):dF (bf (aI aR (d+0)) KK 36 NY) 0 (oz [0,3,9,10,11] (dX a0 s2)) (qd a0 r):=by
 unfold bS at h
 exact bW nB QC h (.br 12 (λ_=>.bd λx3 q3=>Ix vB 13 q3<|.br 20 (λ_=>.fail) λ_=>E0 [0,3,9,10,11]) λ_=>E0 [0,3])
theorem qN(d:Nat){a0:List (List UInt8)}{s2:Int×Int}{r:Int}(h:iF a0 s2=some r):dF (fF (bf (aI aR (d+0)) KK 36 NY) [0,3,9,10,11] KK) 0 (oz [0,3,9,10,11] (dX a0 s2)) (fJ a0 r) :=
 dA (st:=dX a0) (fin:=fJ a0) (step:=bS a0) (λe=>by(intro h;cases h)) (λs x h=>qM d h) KK s2 r h
def dY(a0:List (List UInt8))(s8:Int×List UInt8):List AV×WH:=([(.acc 0 0 1 s8.2.length true),(jw a0),(.int .i64 (a0.length:Int)),(.int .i64 s8.1)],[(some (.cells (gZ s8.2) false true))])
def fK(a0:List (List UInt8)):(List UInt8)→Ex×Fast×WH:=λe=>((.exit 2),[(6,(.acc 0 0 1 e.length true))],[(some (.cells (gZ e) false true))])
abbrev qg(a0:List (List UInt8)):=cZ [6,25,26,27] (dY a0) (fK a0)
def bT(a0:List (List UInt8))(s8:Int×List UInt8):Option ((Int×List UInt8)⊕((List UInt8))) :=
 cond (decide (s8.1<(a0.length:Int))) ((iW a0 s8.1).bind λ(x9:List UInt8)=>gd (dS 1 (s8.2++x9).length) (some (.inl ((IntKind.i64.wrap (s8.1+1)),(s8.2++x9))))) (some (.inr s8.2))
def iG(a0:List (List UInt8))(s8:Int×List UInt8):Option ((List UInt8)):=dw (bT a0) KK s8
theorem qO(d:Nat){a0:List (List UInt8)}{s8:Int×List UInt8}{r:(Int×List UInt8)⊕((List UInt8))}(h:bT a0 s8=some r):dF (bf (aI aR (d+0)) KK 36 NZ) 0 (oz [6,25,26,27] (dY a0 s8)) (qg a0 r):=by
 unfold bT at h
 exact bW nB QD h (.br 28 (λ_=>.bd λx9 q9=>Ix vB 29 q9<|.gd λUD=>Ap oL 33 UD<|E0 [6,25,26,27]) λ_=>E0 [6])
theorem qP(d:Nat){a0:List (List UInt8)}{s8:Int×List UInt8}{r:(List UInt8)}(h:iG a0 s8=some r):dF (fF (bf (aI aR (d+0)) KK 36 NZ) [6,25,26,27] KK) 0 (oz [6,25,26,27] (dY a0 s8)) (fK a0 r) :=
 dA (st:=dY a0) (fin:=fK a0) (step:=bT a0) (λe=>by(intro h;cases h)) (λs x h=>qO d h) KK s8 r h
def dO(a0:List (List UInt8)):Option (List UInt8) :=
 (iF a0 (0,0)).bind λ(x4:Int)=>gd (XW 1 x4) ((iG a0 (0,([]:List UInt8))).bind λ(y8:(List UInt8))=>some y8)
def kI(a0:List (List UInt8))(r:List UInt8):AV×WH:=((jl r),[])
theorem lI(d:Nat){a0:List (List UInt8)}{r:List UInt8}(h:dO a0=some r):Spec (aI aR (d+2)) 65 [(jw a0)] [] (kI a0 r).1 (kI a0 r).2:=by
 unfold dO at h
 exact bC (Ah _) aaM h (.bd λx4 q4=>Lp [none,none,none,none,none] [] [] (qN (d+1) q4)<|.gd λq5=>.ob (of_decide_eq_true q5:(0≤x4∧x4≤70368744177664∧1*(x4).toNat≤281474976710656∧(x4).toNat*1≤70368744177664))<|.bd λy8 Oy=>Lp [none,none,none,none] [] [] (qP (d+1) Oy)<|Fn Fo [] none)
def mG(records:List (List UInt8))(s10:List UInt8×Int):List AV×WH:=([(jl s10.1),(jw records),(.int .i64 (records.length:Int)),(.int .i64 s10.2)],[])
def pz(records:List (List UInt8)):(List UInt8)→Ex×Fast×WH:=λe=>((.exit 0),[(5,(jl e))],[])
abbrev EU(records:List (List UInt8)):=cZ [5,10,11,12] (mG records) (pz records)
def jD(records:List (List UInt8))(s10:List UInt8×Int):Option ((List UInt8×Int)⊕((List UInt8))) :=
 cond (decide (s10.2<(records.length:Int))) ((iW records s10.2).bind λ(y8:List UInt8)=>(zl s10.1 ([(y8.length:Int)])).bind λ(nT:List UInt8)=>(sj y8).bind λ(M4:List UInt8)=>(dO ([nT,M4,y8])).bind λ(MH:List UInt8)=>some (.inl (MH,(IntKind.i64.wrap (s10.2+1))))) (some (.inr s10.1))
def wU(records:List (List UInt8))(s10:List UInt8×Int):Option ((List UInt8)):=dw (jD records) KK s10
theorem GD(d:Nat){records:List (List UInt8)}{s10:List UInt8×Int}{r:(List UInt8×Int)⊕((List UInt8))}(h:jD records s10=some r):dF (bf (aI aR (d+2)) KK 29 NK) 0 (oz [5,10,11,12] (mG records s10)) (EU records r):=by
 unfold jD at h
 exact bW nB Qt h (.br 13 (λ_=>.bd λy8 Oy=>Ix vB 14 Oy<|.bd λnT KJ=>Cl [] Fo [] (Oz (d+0) KJ)<|.bd λM4 YL=>Cl [] Fo [] (Eu (d+0) YL)<|.bd λMH QV=>Cl [] Fo [] (lI (d+0) QV)<|E0 [5,10,11,12]) λ_=>E0 [5])
theorem GH(d:Nat){records:List (List UInt8)}{s10:List UInt8×Int}{r:(List UInt8)}(h:wU records s10=some r):dF (fF (bf (aI aR (d+2)) KK 29 NK) [5,10,11,12] KK) 0 (oz [5,10,11,12] (mG records s10)) (pz records r) :=
 dA (st:=mG records) (fin:=pz records) (step:=jD records) (λe=>by(intro h;cases h)) (λs x h=>GD d h) KK s10 r h
def su(aU:List UInt8)(records:List (List UInt8)):Option (List UInt8) :=
 gd (dS 1 aU.length) ((wU records (aU,0)).bind λ(Cz:(List UInt8))=>some Cz)
def Aq(aU:List UInt8)(records:List (List UInt8))(r:List UInt8):AV×WH:=((jl r),[])
theorem Ev(d:Nat){aU:List UInt8}{records:List (List UInt8)}{r:List UInt8}(h:su aU records=some r):Spec (aI aR (d+3)) 26 [(jl aU),(jw records)] [] (Aq aU records r).1 (Aq aU records r).2:=by
 unfold su at h
 exact bC (Ah _) aay h (.gd λq1=>.ob q1<|.bd λCz Rk=>Lp [Fo,none,none,none] [] [] (GH (d+0) Rk)<|Fn Fo [] none)
def ig(parts:List (List UInt8))(bH:Int)(bg:List UInt8):Option (Bool×List UInt8) :=
 (dO parts).bind λ(x1:List UInt8)=>cond (decide ((IntKind.i64.wrap ((bg.length:Int)+(x1.length:Int)))>65536)) (some (false,bg)) (gd (dS 1 (bg++x1).length) (some (true,(bg++x1))))
def qh(parts:List (List UInt8))(bH:Int)(bg:List UInt8)(r:Bool×List UInt8):AV×WH:=((.bool r.1),[(some (.cells [(.acc 2 0 1 r.2.length true),(.int .i64 bH)] false false)),none,(some (.cells (gZ r.2) false true))])
theorem sP(d:Nat){parts:List (List UInt8)}{bH:Int}{bg:List UInt8}{r:Bool×List UInt8}(h:ig parts bH bg=some r):Spec (aI aR (d+3)) 19 [(.ptr (some (0,0))),(jw parts)] [(some (.cells [(.acc 1 0 1 bg.length true),(.int .i64 bH)] false false)),(some (.cells (gZ bg) false true))] (qh parts bH bg r).1 (qh parts bH bg r).2:=by
 unfold ig at h
 exact bC nB aas h (.bd λx1 q1=>Cl [] Fo [] (lI (d+0) q1)<|.br 16 (λ_=>Fn Fo [] Tw) λ_=>.gd λq2=>Ap oL 23 q2<|.st none<|Fn Fo [] Tw)
def jP(records:List (List UInt8))(bg:Int)(nu:List UInt8):Option (Bool×List UInt8) :=
 (qc records).bind λ(x1:Bool)=>cond (!x1) ((su [] records).bind λ(x2:List UInt8)=>(ig [x2] bg nu).bind λ(x3:Bool×List UInt8)=>some (x3.1,x3.2)) (some (false,nu))
def xO(records:List (List UInt8))(bg:Int)(nu:List UInt8)(r:Bool×List UInt8):AV×WH:=((.bool r.1),[(some (.cells [(.ptr (some (1,0)))] false false)),(some (.cells [(.acc 3 0 1 r.2.length true),(.int .i64 bg)] false false)),none,(some (.cells (gZ r.2) false true))])
theorem pO(d:Nat){records:List (List UInt8)}{bg:Int}{nu:List UInt8}{r:Bool×List UInt8}(h:jP records bg nu=some r):Spec (aI aR (d+5)) 34 [(.ptr (some (0,0))),(jw records)] [(some (.cells [(.ptr (some (1,0)))] false false)),(some (.cells [(.acc 2 0 1 nu.length true),(.int .i64 bg)] false false)),(some (.cells (gZ nu) false true))] (xO records bg nu r).1 (xO records bg nu r).2:=by
 unfold jP at h
 exact bC nB aaC h (.bd λx1 q1=>EJ (Gw (d+0) q1)<|.br 8 (λ_=>.bd λx2 q2=>Cl [] Fo [] (Ev (d+1) q2)<|.bd λx3 q3=>Db (sP (d+1) q3)<|Fn Fo [] Tw) λ_=>Fn Fo [] Tw)
def kU(bH:Int)(bg:List UInt8):Option (Int×Int) :=
 some ((IntKind.i64.wrap ((bg.length:Int)-bH)),(bg.length:Int))
def sQ(bH:Int)(bg:List UInt8)(r:Int×Int):AV×WH:=((.int .i64 r.1),[(some (.cells [(.acc 1 0 1 bg.length true),(.int .i64 r.2)] false false)),(some (.cells (gZ bg) false true))])
theorem vJ(d:Nat){bH:Int}{bg:List UInt8}{r:Int×Int}(h:kU bH bg=some r):Spec (aI aR (d+1)) 21 [(.ptr (some (0,0)))] [(some (.cells [(.acc 1 0 1 bg.length true),(.int .i64 bH)] false false)),(some (.cells (gZ bg) false true))] (sQ bH bg r).1 (sQ bH bg r).2:=by
 unfold kU at h
 exact bC nB aat h (.st none<|Fn Fo [] none)
def iP(keep:Int)(bH:Int)(bg:List UInt8):Option (Int×Int×List UInt8) :=
 (yL bg 0 (IntKind.i64.wrap (bH+(if (if (IntKind.i64.wrap ((bg.length:Int)-bH))<keep then (IntKind.i64.wrap ((bg.length:Int)-bH))else keep)>0 then (if (IntKind.i64.wrap ((bg.length:Int)-bH))<keep then (IntKind.i64.wrap ((bg.length:Int)-bH))else keep)else 0)))).bind λ(x1:List UInt8)=>some ((if (if (IntKind.i64.wrap ((bg.length:Int)-bH))<keep then (IntKind.i64.wrap ((bg.length:Int)-bH))else keep)>0 then (if (IntKind.i64.wrap ((bg.length:Int)-bH))<keep then (IntKind.i64.wrap ((bg.length:Int)-bH))else keep)else 0),(IntKind.i64.wrap (bH+(if (if (IntKind.i64.wrap ((bg.length:Int)-bH))<keep then (IntKind.i64.wrap ((bg.length:Int)-bH))else keep)>0 then (if (IntKind.i64.wrap ((bg.length:Int)-bH))<keep then (IntKind.i64.wrap ((bg.length:Int)-bH))else keep)else 0))),x1)
def fE(keep:Int)(bH:Int)(bg:List UInt8)(r:Int×Int×List UInt8):AV×WH:=((.int .i64 r.1),[(some (.cells [(.acc 2 0 1 r.2.2.length true),(.int .i64 r.2.1)] false false)),none,(some (.cells (gZ r.2.2) false true))])
theorem uH(d:Nat){keep:Int}{bH:Int}{bg:List UInt8}{r:Int×Int×List UInt8}(h:iP keep bH bg=some r):Spec (aI aR (d+1)) 22 [(.ptr (some (0,0))),(.int .i64 keep)] [(some (.cells [(.acc 1 0 1 bg.length true),(.int .i64 bH)] false false)),(some (.cells (gZ bg) false true))] (fE keep bH bg r).1 (fE keep bH bg r).2:=by
 unfold iP at h
 exact bC nB aau h (.st none<|.bd λx1 q1=>.v 35 (.acc 1 0 1 x1.length false)<|.ob (Mc oL q1:wP (.slice 1 (.c (.acc 1 0 1 bg.length true)) none (some (.c (.int .i64 (IntKind.i64.wrap (bH+(if (if (IntKind.i64.wrap ((bg.length:Int)-bH))<keep then (IntKind.i64.wrap ((bg.length:Int)-bH))else keep)>0 then (if (IntKind.i64.wrap ((bg.length:Int)-bH))<keep then (IntKind.i64.wrap ((bg.length:Int)-bH))else keep)else 0)))))) none)=some (.acc 1 0 1 x1.length false))<|.st none<|.yC (.fin (some false) [] (some true)) _ (λr=>@Eq AV (.int .i64 (if (if (IntKind.i64.wrap ((bg.length:Int)-bH))<keep then (IntKind.i64.wrap ((bg.length:Int)-bH))else keep)>0 then (if (IntKind.i64.wrap ((bg.length:Int)-bH))<keep then (IntKind.i64.wrap ((bg.length:Int)-bH))else keep)else 0)) (fE keep bH bg r).1∧@Eq WH [(some (.cells [(.acc 2 0 1 x1.length true),(.int .i64 (IntKind.i64.wrap (bH+(if (if (IntKind.i64.wrap ((bg.length:Int)-bH))<keep then (IntKind.i64.wrap ((bg.length:Int)-bH))else keep)>0 then (if (IntKind.i64.wrap ((bg.length:Int)-bH))<keep then (IntKind.i64.wrap ((bg.length:Int)-bH))else keep)else 0))))] false false)),none,(some (.cells ((gZ bg).take (x1.length*1)) false true))] (fE keep bH bg r).2) (by show _∧_;(try rw[Ma oL q1]);(try rw[DJ oL q1]);refine⟨?_, ?_⟩<;>first | rfl |(simp only[fE,dH,aF,List.length_replicate,aY,fu,aJ,aO,Nat.add_zero,Nat.zero_add];done) | simp[fE]))
def dZ(bH:Int)(bg:List UInt8):Option (List UInt8) :=
 gd (dS 1 bg.length) (some bg)
def oM(bH:Int)(bg:List UInt8)(r:List UInt8):AV×WH:=((jl r),[(some (.cells [(.acc 1 0 1 bg.length true),(.int .i64 bH)] false false)),(some (.cells (gZ bg) false true))])
theorem lU(d:Nat){bH:Int}{bg:List UInt8}{r:List UInt8}(h:dZ bH bg=some r):Spec (aI aR (d+2)) 20 [(.ptr (some (0,0)))] [(some (.cells [(.acc 1 0 1 bg.length true),(.int .i64 bH)] false false)),(some (.cells (gZ bg) false true))] (oM bH bg r).1 (oM bH bg r).2:=by
 unfold dZ at h
 exact bC (Ah _) ZJ h (.gd λq1=>.ob q1<|Fn Fo [] none)
def iq(aU:List UInt8)(bH:Int)(bg:List UInt8):Option (Bool×Int×List UInt8) :=
 cond (decide ((aU.length:Int)>65536)) (some (false,bH,bg)) (gd (dS 1 aU.length) (some (true,(aU.length:Int),aU)))
def qj(aU:List UInt8)(bH:Int)(bg:List UInt8)(r:Bool×Int×List UInt8):AV×WH:=((.bool r.1),[(some (.cells [(.acc 2 0 1 r.2.2.length true),(.int .i64 r.2.1)] false false)),none,(some (.cells (gZ r.2.2) false true))])
theorem sS(d:Nat){aU:List UInt8}{bH:Int}{bg:List UInt8}{r:Bool×Int×List UInt8}(h:iq aU bH bg=some r):Spec (aI aR (d+2)) 72 [(.ptr (some (0,0))),(jl aU)] [(some (.cells [(.acc 1 0 1 bg.length true),(.int .i64 bH)] false false)),(some (.cells (gZ bg) false true))] (qj aU bH bg r).1 (qj aU bH bg r).2:=by
 unfold iq at h
 exact bC (Ah _) ZN h (.br 7 (λ_=>Fn Fo [] Tw) λ_=>.gd λq1=>.ob q1<|.st none<|.st none<|.kl [1]<|Fn Fo [] Tw)
def kV(bH:Int)(bg:List UInt8):Option (Int×List UInt8) :=
 (dZ bH bg).bind λ(x1:List UInt8)=>(mP x1).bind λ(x2:List (List UInt8)×Int)=>cond (decide (x2.2<(x1.length:Int))) ((yL x1 0 x2.2).bind λ(x3:List UInt8)=>(iq x3 bH bg).bind λ(x4:Bool×Int×List UInt8)=>some (x4.2.1,x4.2.2)) (some (bH,bg))
def zm(bH:Int)(bg:List UInt8)(r:Int×List UInt8):AV×WH:=((.ptr (some (2,0))),[(some (.cells [(.acc 3 0 1 r.2.length true),(.int .i64 r.1)] false false)),none,(some (.cells [(.ptr (some (0,0)))] false false)),(some (.cells (gZ r.2) false true))])
theorem wV(d:Nat){bH:Int}{bg:List UInt8}{r:Int×List UInt8}(h:kV bH bg=some r):Spec (aI aR (d+7)) 30 [(.ptr (some (0,0)))] [(some (.cells [(.acc 1 0 1 bg.length true),(.int .i64 bH)] false false)),(some (.cells (gZ bg) false true))] (zm bH bg r).1 (zm bH bg r).2:=by
 unfold kV at h
 exact bC nB ZK h (.bd λx1 q1=>Db (lU (d+4) q1)<|.bd λx2 q2=>Cl [] Fo [] (wS (d+0) q2)<|.br 18 (λ_=>.bd λx3 q3=>Si oL 22 q3<|.bd λx4 q4=>Db (sS (d+4) q4)<|Fn Fo [] Tw) λ_=>Fn Fo [] Tw)
def iQ(bg:Int)(nu:List UInt8):Option (List (List UInt8)) :=
 (dZ bg nu).bind λ(x1:List UInt8)=>(mP x1).bind λ(x2:List (List UInt8)×Int)=>some x2.1
def ru(bg:Int)(nu:List UInt8)(r:List (List UInt8)):AV×WH:=((jw r),[(some (.cells [(.ptr (some (1,0)))] false false)),(some (.cells [(.acc 2 0 1 nu.length true),(.int .i64 bg)] false false)),(some (.cells (gZ nu) false true))])
theorem uI(d:Nat){bg:Int}{nu:List UInt8}{r:List (List UInt8)}(h:iQ bg nu=some r):Spec (aI aR (d+7)) 35 [(.ptr (some (0,0)))] [(some (.cells [(.ptr (some (1,0)))] false false)),(some (.cells [(.acc 2 0 1 nu.length true),(.int .i64 bg)] false false)),(some (.cells (gZ nu) false true))] (ru bg nu r).1 (ru bg nu r).2:=by
 unfold iQ at h
 exact bC nB aaD h (.bd λx1 q1=>Db (lU (d+4) q1)<|.bd λx2 q2=>Cl [] Fo [] (wS (d+0) q2)<|Fn Fo [] none)
def sU(bH:Int)(bg:List UInt8):Option (Int) :=
 some (bg.length:Int)
def sV(bH:Int)(bg:List UInt8)(r:Int):AV×WH:=((.int .i64 r),[(some (.cells [(.acc 1 0 1 bg.length true),(.int .i64 bH)] false false)),(some (.cells (gZ bg) false true))])
theorem DY(d:Nat){bH:Int}{bg:List UInt8}{r:Int}(h:sU bH bg=some r):Spec (aI aR (d+1)) 25 [(.ptr (some (0,0)))] [(some (.cells [(.acc 1 0 1 bg.length true),(.int .i64 bH)] false false)),(some (.cells (gZ bg) false true))] (sV bH bg r).1 (sV bH bg r).2:=by
 unfold sU at h
 exact bC nB aax h (Fn Fo [] none)
abbrev vK(x2:Int×List UInt8):Fast×WH:=([(1,(.ptr (some (0,0)))),(2,(.ptr (some (1,0))))],[(some (.cells [(.acc 2 0 1 x2.2.length true),(.int .i64 x2.1)] false false)),(some (.cells [(.ptr (some (0,0)))] false false)),(some (.cells (gZ x2.2) false true))])
def uR(x2:Int×List UInt8):Unit→Ex×Fast×WH:=λe=>(.normal,[(1,(.ptr (some (0,0)))),(2,(.ptr (some (1,0))))],[(some (.cells [(.acc 2 0 1 x2.2.length true),(.int .i64 x2.1)] false false)),(some (.cells [(.ptr (some (0,0)))] false false)),(some (.cells (gZ x2.2) false true))])
def kW(x2:Int×List UInt8):Option (Unit) :=
 some ()
theorem wW(d:Nat){x2:Int×List UInt8}{r:Unit}(h:kW x2=some r):dF (bf (aI aR (d+0)) KK 58 JC) 0 (vK x2) (uR x2 r):=by
 unfold kW at h
 exact bW nB Kv h (E0 [1,2])
def kJ :Option (Bool) :=
 (yU).bind λ(x1:Int)=>(ze x1).bind λ(x2:Int×List UInt8)=>(kW x2).bind λ(x3:Unit)=>(jP ([[(97:UInt8)]]) x2.1 x2.2).bind λ(x4:Bool×List UInt8)=>(kU x2.1 x4.2).bind λ(x5:Int×Int)=>(jP ([[(98:UInt8)]]) x5.2 x4.2).bind λ(x6:Bool×List UInt8)=>(iP 2 x5.2 x6.2).bind λ(x7:Int×Int×List UInt8)=>(kV x7.2.1 x7.2.2).bind λ(x8:Int×List UInt8)=>(iQ x8.1 x8.2).bind λ(x9:List (List UInt8))=>cond ((x9.length:Int)==1) ((iW x9 0).bind λ(x10:List UInt8)=>cond (x10==[97]) ((sU x8.1 x8.2).bind λ(y8:Int)=>some (y8==10)) (some false)) (some false)
def oN(r:Bool):AV×WH:=((.bool r),[])
theorem zY(d:Nat) {r:Bool}(h:kJ=some r):Spec (aI aR (d+8)) 31 [] [] (oN r).1 (oN r).2:=by
 unfold kJ at h
 exact bC nB aaA h (.bd λx1 q1=>Cl [] Fo [] (Gm (d+6) q1)<|.bd λx2 q2=>Db (Gv (d+0) q2)<|.bd λx3 q3=>Jn [1,2] [none,none] [] [] (wW (d+7) q3)<|.bd λx4 q4=>Db (pO (d+2) q4)<|.bd λx5 q5=>Db (vJ (d+6) q5)<|.bd λx6 q6=>Db (pO (d+2) q6)<|.bd λx7 q7=>Db (uH (d+6) q7)<|.bd λx8 q8=>Db (wV (d+0) q8)<|.bd λx9 q9=>Db (uI (d+0) q9)<|.br 43 (λ_=>.bd λx10 UD=>Ix vB 45 UD<|.v 47 (.str x10)<|.ob (by rw[show gZ x10=(x10).map mg from rfl,fU];rfl:(dI (gZ x10)).map AV.str=some (.str x10))<|.br 50 (λ_=>.bd λy8 Oy=>Db (DY (d+6) Oy)<|Fn Fo [] none) λ_=>Fn Fo [] none) λ_=>Fn Fo [] none)
def wX(aU:List UInt8)(n:Int):Option (List UInt8) :=
 cond (decide ((aU.length:Int)>n)) ((yL aU 0 n).bind λ(x1:List UInt8)=>gd (dS 1 x1.length) (some x1)) (gd (dS 1 aU.length) (some aU))
def GI(aU:List UInt8)(n:Int)(r:List UInt8):AV×WH:=((jl r),[])
theorem GJ(d:Nat){aU:List UInt8}{n:Int}{r:List UInt8}(h:wX aU n=some r):Spec (aI aR (d+1)) 33 [(jl aU),(.int .i64 n)] [] (GI aU n r).1 (GI aU n r).2:=by
 unfold wX at h
 exact bC nB aaB h (.br 8 (λ_=>.bd λx1 q1=>Si oL 11 q1<|.gd λq2=>UM oL 14 q2<|Fn Fo [] none) λ_=>.gd λq3=>UM oL 14 q3<|Fn Fo [] none)
abbrev wY(s11:Int×List (List UInt8))(l:List (List UInt8)):Fast×WH:=([(0,(jw l)),(3,(.acc 0 0 1 s11.2.length true)),(4,(.int .i64 s11.1))],[(some (.cells (o8 s11.2) false true))])
def vL(s11:Int×List (List UInt8))(l:List (List UInt8)):Unit⊕Unit→Ex×Fast×WH:=fun
 |.inl e=>(.normal,[(0,(jw l)),(3,(.acc 0 0 1 s11.2.length true)),(4,(.int .i64 s11.1))],[(some (.cells (o8 s11.2) false true))])
 |.inr e=>((.exit 0),[(3,(.acc 0 0 1 s11.2.length true))],[(some (.cells (o8 s11.2) false true))])
def gK(s11:Int×List (List UInt8))(l:List (List UInt8)):Option (Unit⊕Unit) :=
 cond (decide (s11.1<(l.length:Int))) (cond (decide (s11.1<5)) (some (.inl ())) (some (.inr ()))) (some (.inr ()))
theorem oO(d:Nat){s11:Int×List (List UInt8)}{l:List (List UInt8)}{r:Unit⊕Unit}(h:gK s11 l=some r):dF (bf (aI aR (d+0)) KK 24 wO) 0 (wY s11 l) (vL s11 l r):=by
 unfold gK at h
 exact bW nB xJ h (.br 9 (λ_=>.br 12 (λ_=>E0 [0,3,4]) λ_=>E0 [3]) λ_=>E0 [3])
def gQ(l:List (List UInt8))(s11:Int×List (List UInt8)):List AV×WH:=([(jw l),(.acc 0 0 1 s11.2.length true),(.int .i64 s11.1)],[(some (.cells (o8 s11.2) false true))])
def jE(l:List (List UInt8)):(List (List UInt8))→Ex×Fast×WH:=λe=>((.exit 0),[(3,(.acc 0 0 1 e.length true))],[(some (.cells (o8 e) false true))])
abbrev wZ(l:List (List UInt8)):=cZ [0,3,4] (gQ l) (jE l)
def eu(l:List (List UInt8))(s11:Int×List (List UInt8)):Option ((Int×List (List UInt8))⊕((List (List UInt8)))) :=
 (gK s11 l).bind λ(nT:Unit⊕Unit)=>cond (qw nT) ((iW l s11.1).bind λ(MH:List UInt8)=>(wX MH 60).bind λ(Cz:List UInt8)=>gd (dS 24 (s11.2++[Cz]).length) (some (.inl ((IntKind.i64.wrap (s11.1+1)),(s11.2++[Cz]))))) (some (.inr s11.2))
def lV(l:List (List UInt8))(s11:Int×List (List UInt8)):Option ((List (List UInt8))):=dw (eu l) KK s11
theorem xU(d:Nat){l:List (List UInt8)}{s11:Int×List (List UInt8)}{r:(Int×List (List UInt8))⊕((List (List UInt8)))}(h:eu l s11=some r):dF (bf (aI aR (d+1)) KK 24 Gh) 0 (oz [0,3,4] (gQ l s11)) (wZ l r):=by
 unfold eu at h
 exact bW nB JD h (.bd λnT KJ=>.ite (λGA=>Jn [0,3,4] [none,none,none] [] [] (uW (il GA) (oO (d+1) KJ))<|.bd λMH QV=>Ix vB 18 QV<|.bd λCz Rk=>Cl [] Fo [] (GJ (d+0) Rk)<|.gd λq16=>Ap vB 22 q16<|E0 [0,3,4]) λGA=>Jn [0,3,4] [none,none,none] [] [] (uW (H_ GA) (oO (d+1) KJ))<|E0 [3])
theorem xV(d:Nat){l:List (List UInt8)}{s11:Int×List (List UInt8)}{r:(List (List UInt8))}(h:lV l s11=some r):dF (fF (bf (aI aR (d+1)) KK 24 Gh) [0,3,4] KK) 0 (oz [0,3,4] (gQ l s11)) (jE l r) :=
 dA (st:=gQ l) (fin:=jE l) (step:=eu l) (λe=>by(intro h;cases h)) (λs x h=>xU d h) KK s11 r h
def lD(l:List (List UInt8)):Option (List (List UInt8)) :=
 (lV l (0,[])).bind λ(xM:(List (List UInt8)))=>some xM
def ql(l:List (List UInt8))(r:List (List UInt8)):AV×WH:=((jw r),[])
theorem OA(d:Nat){l:List (List UInt8)}{r:List (List UInt8)}(h:lD l=some r):Spec (aI aR (d+2)) 32 [(jw l)] [] (ql l r).1 (ql l r).2:=by
 unfold lD at h
 exact bC nB ZL h (.bd λxM Rj=>Lp [none,Tw,none] [] [] (xV (d+0) Rj)<|Fn Fo [] none)
def mH(n:Int)(m:Int):Option (Int) :=
 (Vt .i64 n m).bind λ(x1:Int)=>cond (decide (x1<0)) (some (IntKind.i64.wrap (x1+m))) (some x1)
def Ew(n:Int)(m:Int)(r:Int):AV×WH:=((.int .i64 r),[])
theorem zQ(d:Nat){n:Int}{m:Int}{r:Int}(h:mH n m=some r):Spec (aI aR (d+1)) 23 [(.int .i64 n),(.int .i64 m)] [] (Ew n m r).1 (Ew n m r).2:=by
 unfold mH at h
 exact bC nB aav h (.bd λx1 q1=>.v 7 (.int .i64 x1)<|.ob (Yz q1:zZ .rem .i64 n m=some (.int .i64 x1))<|.br 9 (λ_=>Fn Fo [] none) λ_=>Fn Fo [] none)
def zR(n:Int)(low:Int)(high:Int):Option (Int) :=
 some (if (if n<high then n else high)>low then (if n<high then n else high)else low)
def Ar(n:Int)(low:Int)(high:Int)(r:Int):AV×WH:=((.int .i64 r),[])
theorem MJ(d:Nat){n:Int}{low:Int}{high:Int}{r:Int}(h:zR n low high=some r):Spec (aI aR (d+1)) 74 [(.int .i64 n),(.int .i64 low),(.int .i64 high)] [] (Ar n low high r).1 (Ar n low high r).2:=by
 unfold zR at h
 exact bC nB aaR h (Fn Fo [] none)
def pQ(aU:List UInt8)(s2:Int):List AV×WH:=([(jl aU),(.int .i64 s2)],[])
def sW(aU:List UInt8):Unit⊕Unit→Ex×Fast×WH:=fun
 |.inl e=>(.ret,[(4,(.int .i64 2))],[])
 |.inr e=>((.exit 0),[],[])
abbrev Im(aU:List UInt8):=cZ [0,5] (pQ aU) (sW aU)
def nY(aU:List UInt8)(s2:Int):Option ((Int)⊕(Unit⊕Unit)) :=
 cond (decide (s2<(aU.length:Int))) ((iW aU s2).bind λ(x3:UInt8)=>cond (decide ((x3.toNat:Int)<128)) (some (.inr (.inl ()))) (some (.inl (IntKind.i64.wrap (s2+1))))) (some (.inr (.inr ())))
def Ba(aU:List UInt8)(s2:Int):Option (Unit⊕Unit):=dw (nY aU) KK s2
theorem KM(d:Nat){aU:List UInt8}{s2:Int}{r:(Int)⊕(Unit⊕Unit)}(h:nY aU s2=some r):dF (bf (aI aR (d+0)) KK 18 KF) 0 (oz [0,5] (pQ aU s2)) (Im aU r):=by
 unfold nY at h
 exact bW nB Oo h (.br 10 (λ_=>.bd λx3 q3=>Ix oL 15 q3<|.br 17 (λ_=>E0 [4]) λ_=>E0 [0,5]) λ_=>E0 [])
theorem CB(d:Nat){aU:List UInt8}{s2:Int}{r:Unit⊕Unit}(h:Ba aU s2=some r):dF (fF (bf (aI aR (d+0)) KK 18 KF) [0,5] KK) 0 (oz [0,5] (pQ aU s2)) (sW aU r) :=
 dA (st:=pQ aU) (fin:=sW aU) (step:=nY aU) (λe=>by rcases e with e | e<;>(intro h;cases h)) (λs x h=>KM d h) KK s2 r h
def CF(aU:List UInt8)(Bb:Int):Option (Int) :=
 (Ba aU Bb).bind λ(x4:Unit⊕Unit)=>cond (qw x4) (some 2) (some 3)
def Ey(aU:List UInt8)(Bb:Int)(r:Int):AV×WH:=((.int .i64 r),[])
theorem QW(d:Nat){aU:List UInt8}{Bb:Int}{r:Int}(h:CF aU Bb=some r):Spec (aI aR (d+1)) 107 [(jl aU),(.int .i64 Bb)] [] (Ey aU Bb r).1 (Ey aU Bb r).2:=by
 unfold CF at h
 exact bC nB ZW h (.bd λx4 q4=>.ite (λhb5=>Lp [none,none] [] [] (uW (il hb5) (CB (d+0) q4))<|Fn Fo [] none) λhb5=>Lp [none,none] [] [] (uW (H_ hb5) (CB (d+0) q4))<|Fn Fo [] none)
abbrev Io(s11:Int×Int)(nT:UInt8)(aU:List UInt8):Fast×WH:=([(0,(jl aU)),(5,(.int .i64 s11.1)),(6,(.int .i64 s11.2)),(7,(.int .i64 (IntKind.i64.wrap (nT.toNat:Int))))],[])
def GK(s11:Int×Int)(nT:UInt8)(aU:List UInt8):Bool→Ex×Fast×WH:=λe=>(.normal,[(0,(jl aU)),(5,(.int .i64 s11.1)),(6,(.int .i64 s11.2)),(7,(.int .i64 (IntKind.i64.wrap (nT.toNat:Int)))),(29,(.bool e))],[])
def mR(s11:Int×Int)(nT:UInt8)(aU:List UInt8):Option (Bool) :=
 cond (s11.2==9) (some true) (cond (s11.2==8) (some (decide ((Int.tmod (IntKind.i64.wrap (nT.toNat:Int)) 128)≥64))) (some false))
theorem KN(d:Nat){s11:Int×Int}{nT:UInt8}{aU:List UInt8}{r:Bool}(h:mR s11 nT aU=some r):dF (bf (aI aR (d+0)) KK 56 uG) 0 (Io s11 nT aU) (GK s11 nT aU r):=by
 unfold mR at h
 exact bW nB yT h (.br 21 (λ_=>E0 [0,5,6,7,29]) λ_=>.br 24 (λ_=>E0 [0,5,6,7,29]) λ_=>E0 [0,5,6,7,29])
abbrev Ip(s11:Int×Int)(nT:UInt8)(aU:List UInt8):Fast×WH:=([(0,(jl aU)),(5,(.int .i64 s11.1)),(6,(.int .i64 s11.2)),(7,(.int .i64 (IntKind.i64.wrap (nT.toNat:Int))))],[])
def GL(s11:Int×Int)(nT:UInt8)(aU:List UInt8):Int⊕Unit→Ex×Fast×WH:=fun
 |.inl e=>(.ret,[(2,(.int .i64 0)),(3,(.slice none 1 0 0 true)),(4,(.int .i64 e))],[])
 |.inr e=>(.normal,[(0,(jl aU)),(5,(.int .i64 s11.1)),(6,(.int .i64 s11.2)),(7,(.int .i64 (IntKind.i64.wrap (nT.toNat:Int))))],[])
def mU(s11:Int×Int)(nT:UInt8)(aU:List UInt8):Option (Int⊕Unit) :=
 (mR s11 nT aU).bind λ(M4:Bool)=>cond M4 ((CF aU s11.2).bind λ(MH:Int)=>some (.inl MH)) (some (.inr ()))
theorem CG(d:Nat){s11:Int×Int}{nT:UInt8}{aU:List UInt8}{r:Int⊕Unit}(h:mU s11 nT aU=some r):dF (bf (aI aR (d+1)) KK 56 vF) 0 (Ip s11 nT aU) (GL s11 nT aU r):=by
 unfold mU at h
 exact bW nB zX h (.bd λM4 YL=>Jn [0,5,6,7] [none,none,none,none] [] [] (KN (d+1) YL)<|.br 29 (λ_=>.bd λMH QV=>EJ (QW (d+0) QV)<|E0 [2,3,4]) λ_=>E0 [0,5,6,7])
abbrev Iq(nT:UInt8)(s11:Int×Int)(aU:List UInt8)(xM:Int):Fast×WH:=([(0,(jl aU)),(5,(.int .i64 (IntKind.i64.wrap (s11.1+xM)))),(6,(.int .i64 s11.2)),(7,(.int .i64 (IntKind.i64.wrap (nT.toNat:Int))))],[])
def GN(nT:UInt8)(s11:Int×Int)(aU:List UInt8)(xM:Int):Unit⊕Unit→Ex×Fast×WH:=fun
 |.inl e=>(.ret,[(2,(.int .i64 0)),(3,(.slice none 1 0 0 true)),(4,(.int .i64 2))],[])
 |.inr e=>(.normal,[(0,(jl aU)),(5,(.int .i64 (IntKind.i64.wrap (s11.1+xM)))),(6,(.int .i64 s11.2))],[])
def mV(nT:UInt8)(s11:Int×Int)(aU:List UInt8)(xM:Int):Option (Unit⊕Unit) :=
 cond ((IntKind.i64.wrap (nT.toNat:Int))==0) (cond (decide (s11.2>0)) (some (.inl ())) (some (.inr ()))) (some (.inr ()))
theorem CJ(d:Nat){nT:UInt8}{s11:Int×Int}{aU:List UInt8}{xM:Int}{r:Unit⊕Unit}(h:mV nT s11 aU xM=some r):dF (bf (aI aR (d+0)) KK 56 qY) 0 (Iq nT s11 aU xM) (GN nT s11 aU xM r):=by
 unfold mV at h
 exact bW nB wQ h (.br 45 (λ_=>.br 48 (λ_=>E0 [2,3,4]) λ_=>E0 [0,5,6]) λ_=>E0 [0,5,6])
def g_(aU:List UInt8)(s11:Int×Int):List AV×WH:=([(jl aU),(.int .i64 s11.1),(.int .i64 s11.2)],[])
def iH(aU:List UInt8):(Int×Int×List UInt8)⊕Unit→Ex×Fast×WH:=fun
 |.inl e=>(.ret,[(2,(.int .i64 e.1)),(3,(.acc 0 0 1 e.2.2.length true)),(4,(.int .i64 e.2.1))],[(some (.cells (gZ e.2.2) false true))])
 |.inr e=>((.exit 0),[],[])
abbrev eO(aU:List UInt8):=cZ [0,5,6] (g_ aU) (iH aU)
def nZ(aU:List UInt8)(s11:Int×Int):Option ((Int×Int)⊕((Int×Int×List UInt8)⊕Unit)) :=
 cond (decide (s11.2<(aU.length:Int))) ((iW aU s11.2).bind λ(nT:UInt8)=>(mU s11 nT aU).bind λ(Cz:Int⊕Unit)=>cond (qw Cz) (some (.inr (.inl (0,(zV Cz),[])))) ((SS .i64 (Int.tmod (IntKind.i64.wrap (nT.toNat:Int)) 128) (IntKind.u64.wrap (IntKind.i64.wrap (7*s11.2)))).bind λ(xM:Int)=>cond (decide ((IntKind.i64.wrap (nT.toNat:Int))≥128)) (some (.inl ((IntKind.i64.wrap (s11.1+xM)),(IntKind.i64.wrap (s11.2+1))))) ((mV nT s11 aU xM).bind λ(x18:Unit⊕Unit)=>cond (qw x18) (some (.inr (.inl (0,2,[])))) ((yL aU (IntKind.i64.wrap (s11.2+1)) aU.length).bind λ(x20:List UInt8)=>gd (dS 1 x20.length) (some (.inr (.inl ((IntKind.i64.wrap (s11.1+xM)),0,x20)))))))) (some (.inr (.inr ())))
def Bc(aU:List UInt8)(s11:Int×Int):Option ((Int×Int×List UInt8)⊕Unit):=dw (nZ aU) KK s11
theorem KO(d:Nat){aU:List UInt8}{s11:Int×Int}{r:(Int×Int)⊕((Int×Int×List UInt8)⊕Unit)}(h:nZ aU s11=some r):dF (bf (aI aR (d+1)) KK 56 Ob) 0 (oz [0,5,6] (g_ aU s11)) (eO aU r):=by
 unfold nZ at h
 exact bW nB QN h (.br 11 (λ_=>.bd λnT KJ=>Ix oL 16 KJ<|.bd λCz Rk=>.ite (λYN=>Jn [0,5,6,7] [none,none,none,none] [] [] (uW (il YN) (CG (d+0) Rk))<|.yC (.en [2,3,4] [none,(some true),none] [] []) _ (λr=>(.ret=(eO aU r).1∧[(2,(.int .i64 0)),(3,(.acc 0 0 1 0 true)),(4,(.int .i64 (zV Cz)))]=(eO aU r).2.1∧[(some (.cells (gZ []) false true))]=(eO aU r).2.2)) (by show _∧_∧_;refine⟨rfl, ?_, ?_⟩<;>first | rfl |(simp only[eO,cZ,fA,iH,g_,dH,aF,List.length_replicate,aY,fu,Nat.add_zero,Nat.zero_add];done) | simp[eO,cZ,fA,iH,g_,jl])) λYN=>Jn [0,5,6,7] [none,none,none,none] [] [] (uW (H_ YN) (CG (d+0) Rk))<|.bd λxM Rj=>.v 39 (.int .i64 xM)<|.ob (YE Rj:ED .shl (.int .i64 (Int.tmod (IntKind.i64.wrap (nT.toNat:Int)) 128)) (.int .u64 (IntKind.u64.wrap (IntKind.i64.wrap (7*s11.2))))=some (.int .i64 xM))<|.br 42 (λ_=>E0 [0,5,6]) λ_=>.bd λx18 X4=>.ite (λYO=>Jn [0,5,6,7] [none,none,none,none] [] [] (uW (il YO) (CJ (d+1) X4))<|.yC (.en [2,3,4] [none,(some true),none] [] []) _ (λr=>(.ret=(eO aU r).1∧[(2,(.int .i64 0)),(3,(.acc 0 0 1 0 true)),(4,(.int .i64 2))]=(eO aU r).2.1∧[(some (.cells (gZ []) false true))]=(eO aU r).2.2)) (by show _∧_∧_;refine⟨rfl, ?_, ?_⟩<;>first | rfl |(simp only[eO,cZ,fA,iH,g_,dH,aF,List.length_replicate,aY,fu,Nat.add_zero,Nat.zero_add];done) | simp[eO,cZ,fA,iH,g_,jl])) λYO=>Jn [0,5,6,7] [none,none,none,none] [] [] (uW (H_ YO) (CJ (d+1) X4))<|.bd λx20 q20=>Sl oL 54 q20<|.gd λq21=>UM oL 55 q21<|E1 [2,3,4] [none,Tw,none] [] []) λ_=>E0 [])
theorem CK(d:Nat){aU:List UInt8}{s11:Int×Int}{r:(Int×Int×List UInt8)⊕Unit}(h:Bc aU s11=some r):dF (fF (bf (aI aR (d+1)) KK 56 Ob) [0,5,6] KK) 0 (oz [0,5,6] (g_ aU s11)) (iH aU r) :=
 dA (st:=g_ aU) (fin:=iH aU) (step:=nZ aU) (λe=>by rcases e with e | e<;>(intro h;cases h)) (λs x h=>KO d h) KK s11 r h
def CO(aU:List UInt8):Option (Int×List UInt8×Int) :=
 (Bc aU (0,0)).bind λ(X5:(Int×Int×List UInt8)⊕Unit)=>cond (qw X5) (some ((zV X5).1,(zV X5).2.2,(zV X5).2.1)) (some (0,[],3))
def Ez(aU:List UInt8)(r:Int×List UInt8×Int):AV×WH:=((.tuple [(.int .i64 r.1),(jl r.2.1),(.int .i64 r.2.2)]),[])
theorem QX(d:Nat){aU:List UInt8}{r:Int×List UInt8×Int}(h:CO aU=some r):Spec (aI aR (d+2)) 78 [(jl aU)] [] (Ez aU r).1 (Ez aU r).2:=by
 unfold CO at h
 exact bC nB aaU h (.bd λX5 q22=>.ite (λYP=>Lp [none,none,none] [] [] (uW (il YP) (CK (d+0) q22))<|Fn Fo [] none) λYP=>Lp [none,none,none] [] [] (uW (H_ YP) (CK (d+0) q22))<|Fn Fo [] none)
def CP(OB:Int)(c:Int):Option (Int) :=
 some (IntKind.u64.wrap ((Vr .u64 OB c)*1099511628211))
def EA(OB:Int)(c:Int)(r:Int):AV×WH:=((.int .u64 r),[])
theorem JK(d:Nat){OB:Int}{c:Int}{r:Int}(h:CP OB c=some r):Spec (aI aR (d+1)) 108 [(.int .u64 OB),(.int .u64 c)] [] (EA OB c r).1 (EA OB c r).2:=by
 unfold CP at h
 exact bC nB ZX h (Fn Fo [] none)
def rO(parts:List (List UInt8))(s12:Int×Int)(KU:Int×Int):List AV×WH:=([(XZ parts),(.int .u64 KU.1),(.int .i64 s12.2),(.int .i64 KU.2)],[])
def uS(parts:List (List UInt8))(s12:Int×Int):Int→Ex×Fast×WH:=λe=>((.exit 2),[(0,(XZ parts)),(3,(.int .u64 e)),(4,(.int .i64 s12.2))],[])
abbrev KP(parts:List (List UInt8))(s12:Int×Int):=cZ [0,3,4,5] (rO parts s12) (uS parts s12)
def mZ(parts:List (List UInt8))(s12:Int×Int)(KU:Int×Int):Option ((Int×Int)⊕(Int)) :=
 (iW parts s12.2).bind λ(x18:List UInt8)=>cond (decide (KU.2<(x18.length:Int))) ((iW parts s12.2).bind λ(UO:List UInt8)=>(iW UO KU.2).bind λ(x20:UInt8)=>(CP KU.1 (IntKind.u64.wrap (x20.toNat:Int))).bind λ(x21:Int)=>some (.inl (x21,(IntKind.i64.wrap (KU.2+1))))) (some (.inr KU.1))
def D5(parts:List (List UInt8))(s12:Int×Int)(KU:Int×Int):Option (Int):=dw (mZ parts s12) KK KU
theorem MK(d:Nat){parts:List (List UInt8)}{s12:Int×Int}{KU:Int×Int}{r:(Int×Int)⊕(Int)}(h:mZ parts s12 KU=some r):dF (bf (aI aR (d+1)) KK 33 Og) 0 (oz [0,3,4,5] (rO parts s12 KU)) (KP parts s12 r):=by
 unfold mZ at h
 exact bW nB QU h (.bd λx18 X4=>Ix R_S 15 X4<|.br 18 (λ_=>.bd λUO Y6=>Ix R_S 24 Y6<|.bd λx20 q20=>.v 27 (.int .u8 (x20.toNat:Int))<|.ob (ZA q20:wP (.jm (.c (.str UO)) (.c (.int .i64 KU.2)))=some (.int .u8 x20.toNat))<|.bd λx21 q21=>EJ (JK (d+0) q21)<|E0 [0,3,4,5]) λ_=>E0 [0,3,4])
theorem ML(d:Nat){parts:List (List UInt8)}{s12:Int×Int}{KU:Int×Int}{r:Int}(h:D5 parts s12 KU=some r):dF (fF (bf (aI aR (d+1)) KK 33 Og) [0,3,4,5] KK) 0 (oz [0,3,4,5] (rO parts s12 KU)) (uS parts s12 r) :=
 dA (st:=rO parts s12) (fin:=uS parts s12) (step:=mZ parts s12) (λe=>by(intro h;cases h)) (λs x h=>MK d h) KK KU r h
def rP(parts:List (List UInt8))(s12:Int×Int):List AV×WH:=([(XZ parts),(.int .u64 s12.1),(.int .i64 s12.2)],[])
def uT(parts:List (List UInt8)):Int→Ex×Fast×WH:=λe=>((.exit 0),[(3,(.int .u64 e))],[])
abbrev KQ(parts:List (List UInt8)):=cZ [0,3,4] (rP parts) (uT parts)
def m_(parts:List (List UInt8))(s12:Int×Int):Option ((Int×Int)⊕(Int)) :=
 cond (decide (s12.2<(parts.length:Int))) ((D5 parts s12 (s12.1,0)).bind λ(X5:Int)=>(CP X5 256).bind λ(x23:Int)=>some (.inl (x23,(IntKind.i64.wrap (s12.2+1))))) (some (.inr s12.1))
def D6(parts:List (List UInt8))(s12:Int×Int):Option (Int):=dw (m_ parts) KK s12
theorem MN(d:Nat){parts:List (List UInt8)}{s12:Int×Int}{r:(Int×Int)⊕(Int)}(h:m_ parts s12=some r):dF (bf (aI aR (d+1)) KK 33 Oe) 0 (oz [0,3,4] (rP parts s12)) (KQ parts r):=by
 unfold m_ at h
 exact bW nB QT h (.br 9 (λ_=>.bd λX5 q22=>Lp [none,none,none,none] [] [] (ML (d+0) q22)<|.bd λx23 q23=>EJ (JK (d+0) q23)<|E0 [0,3,4]) λ_=>E0 [3])
theorem MO(d:Nat){parts:List (List UInt8)}{s12:Int×Int}{r:Int}(h:D6 parts s12=some r):dF (fF (bf (aI aR (d+1)) KK 33 Oe) [0,3,4] KK) 0 (oz [0,3,4] (rP parts s12)) (uT parts r) :=
 dA (st:=rP parts) (fin:=uT parts) (step:=m_ parts) (λe=>by(intro h;cases h)) (λs x h=>MN d h) KK s12 r h
def D7(parts:List (List UInt8)):Option (Int) :=
 (D6 parts (14695981039346656037,0)).bind λ(x24:Int)=>some x24
def GQ(parts:List (List UInt8))(r:Int):AV×WH:=((.int .u64 r),[])
theorem MP(d:Nat){parts:List (List UInt8)}{r:Int}(h:D7 parts=some r):Spec (aI aR (d+2)) 80 [(XZ parts)] [] (GQ parts r).1 (GQ parts r).2:=by
 unfold D7 at h
 exact bC nB aaW h (.bd λx24 q24=>Lp [none,none,none] [] [] (MO (d+0) q24)<|Fn Fo [] none)
def jF (s3:Int×Int×List UInt8):List AV×WH:=([(.int .u64 s3.1),(.acc 0 0 1 s3.2.2.length true),(.int .i64 s3.2.1)],[(some (.cells (gZ s3.2.2) false true))])
def j5 :(List UInt8)→Ex×Fast×WH:=λe=>((.exit 0),[(3,(.acc 0 0 1 e.length true))],[(some (.cells (gZ e) false true))])
abbrev jG :=cZ [0,3,4] (jF) (j5)
def ku (s3:Int×Int×List UInt8):Option ((Int×Int×List UInt8)⊕((List UInt8))) :=
 cond (decide (s3.2.1≥0)) ((iW s3.2.2 s3.2.1).bind λ(x4:UInt8)=>some (.inl ((IntKind.u64.wrap (Int.tdiv s3.1 256)),(IntKind.i64.wrap (s3.2.1-1)),(s3.2.2.set s3.2.1.toNat (pY (Int.tmod s3.1 256)))))) (some (.inr s3.2.2))
def zn (s3:Int×Int×List UInt8):Option ((List UInt8)):=dw (ku) KK s3
theorem Ir(d:Nat) {s3:Int×Int×List UInt8}{r:(Int×Int×List UInt8)⊕((List UInt8))}(h:ku s3=some r):dF (bf (aI aR (d+0)) KK 19 Oc) 0 (oz [0,3,4] (jF s3)) (jG r):=by
 unfold ku at h
 exact bW nB QS h (.br 7 (λ_=>.v 14 (.int .u8 ((pY (Int.tmod s3.1 256)).toNat:Int))<|.ob (NG _:@Eq (Option AV) (some (.int .u8 (IntKind.u8.wrap (Int.tmod s3.1 256)))) (some (.int .u8 ((pY (Int.tmod s3.1 256)).toNat:Int))))<|.bd λx4 q4=>Ia oL 15 0 q4<|.st (some (gZ (s3.2.2.set s3.2.1.toNat (pY (Int.tmod s3.1 256)))))<|.ob (YC (o:=0) oL q4 rfl:Pf (gZ s3.2.2) (0+s3.2.1.toNat*1) [(.int .u8 ((pY (Int.tmod s3.1 256)).toNat:Int))]=some (gZ (s3.2.2.set s3.2.1.toNat (pY (Int.tmod s3.1 256)))))<|.yC (.en [0,3,4] [none,none,none] [] []) _ (λr=>(.normal=(jG r).1∧[(0,(.int .u64 (IntKind.u64.wrap (Int.tdiv s3.1 256)))),(3,(.acc 0 0 1 s3.2.2.length true)),(4,(.int .i64 (IntKind.i64.wrap (s3.2.1-1))))]=(jG r).2.1∧[(some (.cells (gZ (s3.2.2.set s3.2.1.toNat (pY (Int.tmod s3.1 256)))) false true))]=(jG r).2.2)) (by show _∧_∧_;(try rw[show AV.list 1 s3.2.2.length (gZ (s3.2.2.set s3.2.1.toNat (pY (Int.tmod s3.1 256)))) false=jl (s3.2.2.set s3.2.1.toNat (pY (Int.tmod s3.1 256)))from by simp only[jl,dH]]);refine⟨rfl, ?_, ?_⟩<;>first | rfl |(simp only[jG,cZ,fA,j5,jF,dH,aF,List.length_replicate,aY,fu,Nat.add_zero,Nat.zero_add];done) | simp[jG,cZ,fA,j5,jF])) λ_=>E0 [3])
theorem Iu(d:Nat) {s3:Int×Int×List UInt8}{r:(List UInt8)}(h:zn s3=some r):dF (fF (bf (aI aR (d+0)) KK 19 Oc) [0,3,4] KK) 0 (oz [0,3,4] (jF s3)) (j5 r) :=
 dA (st:=jF) (fin:=j5) (step:=ku) (λe=>by(intro h;cases h)) (λs x h=>Ir d h) KK s3 r h
def sZ(OB:Int):Option (List UInt8) :=
 gd (PI 1 8) ((zn (OB,7,(List.replicate 8 ((0:UInt8):UInt8)))).bind λ(x5:(List UInt8))=>some x5)
def CQ(OB:Int)(r:List UInt8):AV×WH:=((jl r),[])
theorem GR(d:Nat){OB:Int}{r:List UInt8}(h:sZ OB=some r):Spec (aI aR (d+1)) 79 [(.int .u64 OB)] [] (CQ OB r).1 (CQ OB r).2:=by
 unfold sZ at h
 exact bC nB aaV h (.gd λq1=>.ap 5 8 (gZ (List.replicate 8 ((0:UInt8):UInt8)))<|.ob (S9 (n:=8) q1:wMk (.int .i64 8) (.int .i64 8) 8 1)<|.ob (Md (x:=((0:UInt8):UInt8)) oL rfl _:je 8 [(.int .u8 0)]=gZ (List.replicate 8 ((0:UInt8):UInt8)))<|.bd λx5 q5=>Lp [none,none,none] [] [] (Iu (d+0) q5)<|Fn Fo [] none)
abbrev EW(x25:Int×List UInt8×Int)(aU:List UInt8)(qx:Int×List (List UInt8))(x24:List UInt8):Fast×WH:=([(0,(jl aU)),(4,(.acc 0 0 1 qx.2.length true)),(5,(.int .i64 qx.1)),(6,(jl x24)),(7,(.int .i64 x25.1)),(8,(jl x25.2.1)),(9,(.int .i64 x25.2.2))],[(some (.cells (o8 qx.2) false true))])
def D8(x25:Int×List UInt8×Int)(aU:List UInt8)(qx:Int×List (List UInt8))(x24:List UInt8):Bool→Ex×Fast×WH:=λe=>(.normal,[(0,(jl aU)),(4,(.acc 0 0 1 qx.2.length true)),(5,(.int .i64 qx.1)),(6,(jl x24)),(7,(.int .i64 x25.1)),(8,(jl x25.2.1)),(32,(.bool e))],[(some (.cells (o8 qx.2) false true))])
def jU(x25:Int×List UInt8×Int)(aU:List UInt8)(qx:Int×List (List UInt8))(x24:List UInt8):Option (Bool) :=
 cond (x25.2.2 != 0) (some true) (cond (decide (x25.1>4000)) (some true) (some (decide ((x25.2.1.length:Int)<(IntKind.i64.wrap (8+x25.1))))))
theorem GU(d:Nat){x25:Int×List UInt8×Int}{aU:List UInt8}{qx:Int×List (List UInt8)}{x24:List UInt8}{r:Bool}(h:jU x25 aU qx x24=some r):dF (bf (aI aR (d+0)) KK 67 xK) 0 (EW x25 aU qx x24) (D8 x25 aU qx x24 r):=by
 unfold jU at h
 exact bW nB A_ h (.br 22 (λ_=>E0 [0,4,5,6,7,8,32]) λ_=>.br 26 (λ_=>E0 [0,4,5,6,7,8,32]) λ_=>E0 [0,4,5,6,7,8,32])
abbrev EX(x25:Int×List UInt8×Int)(aU:List UInt8)(qx:Int×List (List UInt8))(x24:List UInt8):Fast×WH:=([(0,(jl aU)),(4,(.acc 0 0 1 qx.2.length true)),(5,(.int .i64 qx.1)),(6,(jl x24)),(7,(.int .i64 x25.1)),(8,(jl x25.2.1)),(9,(.int .i64 x25.2.2))],[(some (.cells (o8 qx.2) false true))])
def D9(x25:Int×List UInt8×Int)(aU:List UInt8)(qx:Int×List (List UInt8))(x24:List UInt8):Unit⊕Unit→Ex×Fast×WH:=fun
 |.inl e=>(.ret,[(2,(.acc 0 0 1 qx.2.length true)),(3,(.int .i64 qx.1))],[(some (.cells (o8 qx.2) false true))])
 |.inr e=>(.normal,[(0,(jl aU)),(4,(.acc 0 0 1 qx.2.length true)),(5,(.int .i64 qx.1)),(6,(jl x24)),(7,(.int .i64 x25.1)),(8,(jl x25.2.1))],[(some (.cells (o8 qx.2) false true))])
def gT(x25:Int×List UInt8×Int)(aU:List UInt8)(qx:Int×List (List UInt8))(x24:List UInt8):Option (Unit⊕Unit) :=
 (jU x25 aU qx x24).bind λ(x26:Bool)=>cond x26 (some (.inl ())) (some (.inr ()))
theorem zo(d:Nat){x25:Int×List UInt8×Int}{aU:List UInt8}{qx:Int×List (List UInt8)}{x24:List UInt8}{r:Unit⊕Unit}(h:gT x25 aU qx x24=some r):dF (bf (aI aR (d+0)) KK 67 yR) 0 (EX x25 aU qx x24) (D9 x25 aU qx x24 r):=by
 unfold gT at h
 exact bW nB Co h (.bd λx26 q26=>Jn [0,4,5,6,7,8,9] [none,none,none,none,none,none,none] [] [] (GU (d+0) q26)<|.br 32 (λ_=>E0 [2,3]) λ_=>E0 [0,4,5,6,7,8])
def mI(aU:List UInt8)(qx:Int×List (List UInt8)):List AV×WH:=([(jl aU),(.acc 0 0 1 qx.2.length true),(.int .i64 qx.1)],[(some (.cells (o8 qx.2) false true))])
def pE(aU:List UInt8):(Int×List (List UInt8))→Ex×Fast×WH:=λe=>(.ret,[(2,(.acc 0 0 1 e.2.length true)),(3,(.int .i64 e.1))],[(some (.cells (o8 e.2) false true))])
abbrev EY(aU:List UInt8):=cZ [0,4,5] (mI aU) (pE aU)
def iI(aU:List UInt8)(qx:Int×List (List UInt8)):Option ((Int×List (List UInt8))⊕((Int×List (List UInt8)))) :=
 (yL aU qx.1 aU.length).bind λ(x24:List UInt8)=>(CO x24).bind λ(x25:Int×List UInt8×Int)=>(gT x25 aU qx x24).bind λ(x27:Unit⊕Unit)=>cond (qw x27) (some (.inr (qx.1,qx.2))) ((yL x25.2.1 8 (IntKind.i64.wrap (8+x25.1))).bind λ(x29:List UInt8)=>gd (dS 1 x29.length) ((D7 [x29]).bind λ(x31:Int)=>(sZ x31).bind λ(x32:List UInt8)=>(yL x25.2.1 0 8).bind λ(YQ:List UInt8)=>cond (!(YQ==x32)) (some (.inr (qx.1,qx.2))) (gd (dS 24 (qx.2++[x29]).length) (some (.inl ((IntKind.i64.wrap ((IntKind.i64.wrap ((IntKind.i64.wrap ((IntKind.i64.wrap (qx.1+(x24.length:Int)))-(x25.2.1.length:Int)))+8))+x25.1)),(qx.2++[x29])))))))
def w9(aU:List UInt8)(qx:Int×List (List UInt8)):Option ((Int×List (List UInt8))):=dw (iI aU) KK qx
theorem GV(d:Nat){aU:List UInt8}{qx:Int×List (List UInt8)}{r:(Int×List (List UInt8))⊕((Int×List (List UInt8)))}(h:iI aU qx=some r):dF (bf (aI aR (d+2)) KK 67 NV) 0 (oz [0,4,5] (mI aU qx)) (EY aU r):=by
 unfold iI at h
 exact bW nB QB h (.bd λx24 q24=>Sl oL 13 q24<|.bd λx25 q25=>Cl [] Fo [] (QX (d+0) q25)<|.bd λx27 q27=>.ite (λYR=>Jn [0,4,5,6,7,8,9] [none,none,none,none,none,none,none] [] [] (uW (il YR) (zo (d+2) q27))<|E0 [2,3]) λYR=>Jn [0,4,5,6,7,8,9] [none,none,none,none,none,none,none] [] [] (uW (H_ YR) (zo (d+2) q27))<|.bd λx29 q29=>Sb oL 39 q29<|.gd λq30=>UM oL 40 q30<|.v 45 (.str x29)<|.ob (by rw[show gZ x29=(x29).map mg from rfl,fU];rfl:(dI (gZ x29)).map AV.str=some (.str x29))<|.bd λx31 q31=>EJ (MP (d+0) q31)<|.bd λx32 q32=>Cl [] Fo [] (GR (d+1) q32)<|.bd λYQ q33=>Si oL 42 q33<|.v 43 (.str YQ)<|.ob (by rw[show gZ YQ=(YQ).map mg from rfl,fU];rfl:(dI (gZ YQ)).map AV.str=some (.str YQ))<|.v 49 (.str x32)<|.ob (by rw[show gZ x32=(x32).map mg from rfl,fU];rfl:(dI (gZ x32)).map AV.str=some (.str x32))<|.br 50 (λ_=>E0 [2,3]) λ_=>.gd λq34=>Ap vB 56 q34<|E0 [0,4,5])
theorem GX(d:Nat){aU:List UInt8}{qx:Int×List (List UInt8)}{r:(Int×List (List UInt8))}(h:w9 aU qx=some r):dF (fF (bf (aI aR (d+2)) KK 67 NV) [0,4,5] KK) 0 (oz [0,4,5] (mI aU qx)) (pE aU r) :=
 dA (st:=mI aU) (fin:=pE aU) (step:=iI aU) (λe=>by(intro h;cases h)) (λs x h=>GV d h) KK qx r h
def pF(aU:List UInt8):Option (List (List UInt8)×Int) :=
 (w9 aU (0,[])).bind λ(x35:(Int×List (List UInt8)))=>some (x35.2,x35.1)
def Au(aU:List UInt8)(r:List (List UInt8)×Int):AV×WH:=((.tuple [(jw r.1),(.int .i64 r.2)]),[])
theorem zq(d:Nat){aU:List UInt8}{r:List (List UInt8)×Int}(h:pF aU=some r):Spec (aI aR (d+3)) 44 [(jl aU)] [] (Au aU r).1 (Au aU r).2:=by
 unfold pF at h
 exact bC nB aaL h (.bd λx35 q35=>Lp [none,Tw,none] [] [] (GX (d+0) q35)<|Fn Fo [] none)
def rQ(aU:List UInt8)(bH:Int)(bg:List UInt8):Option (Bool×aQ) :=
 cond (decide ((aU.length:Int)>65536)) (some (false,(⟨bg,bH⟩:aQ))) (gd (dS 1 aU.length) (some (true,(⟨aU,(aU.length:Int)⟩:aQ))))
def vM(aU:List UInt8)(bH:Int)(bg:List UInt8)(r:Bool×aQ):AV×WH:=((.bool r.1),[(some (.cells (b_ r.2) false false)),(some (.cells (gZ bg) true true))])
theorem GY(d:Nat){aU:List UInt8}{bH:Int}{bg:List UInt8}{r:Bool×aQ}(h:rQ aU bH bg=some r):Spec (aI aR (d+1)) 75 [(.ptr (some (0,0))),(jl aU)] [(some (.cells [(.acc 1 0 1 bg.length true),(.int .i64 bH)] false false)),(some (.cells (gZ bg) true true))] (vM aU bH bg r).1 (vM aU bH bg r).2:=by
 unfold rQ at h
 exact bC nB ZO h (.br 7 (λ_=>Fn Fo [] Fo) λ_=>.gd λq1=>UM oL 11 q1<|.st none<|.st none<|Fn Fo [] Fo)
def j6(records:List (List UInt8))(bg:Int)(nu:List UInt8):Option (Bool×Int×List UInt8) :=
 (qc records).bind λ(x1:Bool)=>cond (!x1) ((su [] records).bind λ(x2:List UInt8)=>(iq x2 bg nu).bind λ(x3:Bool×Int×List UInt8)=>some (x3.1,x3.2.1,x3.2.2)) (some (false,bg,nu))
def rz(records:List (List UInt8))(bg:Int)(nu:List UInt8)(r:Bool×Int×List UInt8):AV×WH:=((.bool r.1),[(some (.cells [(.ptr (some (1,0)))] false false)),(some (.cells [(.acc 3 0 1 r.2.2.length true),(.int .i64 r.2.1)] false false)),none,(some (.cells (gZ r.2.2) false true))])
theorem CS(d:Nat){records:List (List UInt8)}{bg:Int}{nu:List UInt8}{r:Bool×Int×List UInt8}(h:j6 records bg nu=some r):Spec (aI aR (d+5)) 40 [(.ptr (some (0,0))),(jw records)] [(some (.cells [(.ptr (some (1,0)))] false false)),(some (.cells [(.acc 2 0 1 nu.length true),(.int .i64 bg)] false false)),(some (.cells (gZ nu) false true))] (rz records bg nu r).1 (rz records bg nu r).2:=by
 unfold j6 at h
 exact bC nB aaH h (.bd λx1 q1=>EJ (Gw (d+0) q1)<|.br 8 (λ_=>.bd λx2 q2=>Cl [] Fo [] (Ev (d+1) q2)<|.bd λx3 q3=>Db (sS (d+2) q3)<|Fn Fo [] Tw) λ_=>Fn Fo [] Tw)
def pR(l:List (List UInt8))(s2:Int):List AV×WH:=([(jw l),(.int .i64 s2)],[])
def tq(l:List (List UInt8)):Unit⊕Unit→Ex×Fast×WH:=fun
 |.inl e=>(.ret,[(2,(.bool true))],[])
 |.inr e=>((.exit 0),[],[])
abbrev Iw(l:List (List UInt8)):=cZ [0,3] (pR l) (tq l)
def n_(l:List (List UInt8))(s2:Int):Option ((Int)⊕(Unit⊕Unit)) :=
 cond (decide (s2<(l.length:Int))) ((iW l s2).bind λ(x3:List UInt8)=>cond (decide ((x3.length:Int)>4000)) (some (.inr (.inl ()))) (some (.inl (IntKind.i64.wrap (s2+1))))) (some (.inr (.inr ())))
def Bd(l:List (List UInt8))(s2:Int):Option (Unit⊕Unit):=dw (n_ l) KK s2
theorem KR(d:Nat){l:List (List UInt8)}{s2:Int}{r:(Int)⊕(Unit⊕Unit)}(h:n_ l s2=some r):dF (bf (aI aR (d+0)) KK 16 N_) 0 (oz [0,3] (pR l s2)) (Iw l r):=by
 unfold n_ at h
 exact bW nB QK h (.br 7 (λ_=>.bd λx3 q3=>Ix vB 12 q3<|.br 15 (λ_=>E0 [2]) λ_=>E0 [0,3]) λ_=>E0 [])
theorem CU(d:Nat){l:List (List UInt8)}{s2:Int}{r:Unit⊕Unit}(h:Bd l s2=some r):dF (fF (bf (aI aR (d+0)) KK 16 N_) [0,3] KK) 0 (oz [0,3] (pR l s2)) (tq l r) :=
 dA (st:=pR l) (fin:=tq l) (step:=n_ l) (λe=>by rcases e with e | e<;>(intro h;cases h)) (λs x h=>KR d h) KK s2 r h
def zS(l:List (List UInt8)):Option (Bool) :=
 (Bd l 0).bind λ(x4:Unit⊕Unit)=>cond (qw x4) (some true) (some false)
def EB(l:List (List UInt8))(r:Bool):AV×WH:=((.bool r),[])
theorem JL(d:Nat){l:List (List UInt8)}{r:Bool}(h:zS l=some r):Spec (aI aR (d+1)) 76 [(jw l)] [] (EB l r).1 (EB l r).2:=by
 unfold zS at h
 exact bC nB aaS h (.bd λx4 q4=>.ite (λhb5=>Lp [none,none] [] [] (uW (il hb5) (CU (d+0) q4))<|Fn Fo [] none) λhb5=>Lp [none,none] [] [] (uW (H_ hb5) (CU (d+0) q4))<|Fn Fo [] none)
def GZ(n:Int):Option (Bool) :=
 cond (decide (n≥0)) (some (decide (n≤4611686018427387903))) (some false)
def G5(n:Int)(r:Bool):AV×WH:=((.bool r),[])
theorem UE(d:Nat){n:Int}{r:Bool}(h:GZ n=some r):Spec (aI aR (d+1)) 124 [(.int .i64 n)] [] (G5 n r).1 (G5 n r).2:=by
 unfold GZ at h
 exact bC nB Z5 h (.br 5 (λ_=>Fn Fo [] none) λ_=>Fn Fo [] none)
def og(l:List Int)(s9:Int×List UInt8)(s13:Int×List UInt8):List AV×WH:=([(UN l),(.acc 0 0 1 s13.2.length true),(.int .i64 s9.1),(.int .i64 s13.1)],[(some (.cells (gZ s13.2) false true))])
def qQ(l:List Int)(s9:Int×List UInt8):(Int×List UInt8)→Ex×Fast×WH:=λe=>((.exit 2),[(1,(UN l)),(5,(.acc 0 0 1 e.2.length true)),(6,(.int .i64 s9.1)),(7,(.int .i64 e.1))],[(some (.cells (gZ e.2) false true))])
abbrev G6(l:List Int)(s9:Int×List UInt8):=cZ [1,5,6,7] (og l s9) (qQ l s9)
def fQ(l:List Int)(s9:Int×List UInt8)(s13:Int×List UInt8):Option ((Int×List UInt8)⊕((Int×List UInt8))) :=
 cond (decide (s13.1≥128)) (gd (dS 1 (s13.2++[(pY (IntKind.i64.wrap (128+(Int.tmod s13.1 128))))]).length) (some (.inl ((IntKind.i64.wrap (Int.tdiv s13.1 128)),(s13.2++[(pY (IntKind.i64.wrap (128+(Int.tmod s13.1 128))))]))))) (some (.inr (s13.1,s13.2)))
def zu(l:List Int)(s9:Int×List UInt8)(s13:Int×List UInt8):Option ((Int×List UInt8)):=dw (fQ l s9) KK s13
theorem Iy(d:Nat){l:List Int}{s9:Int×List UInt8}{s13:Int×List UInt8}{r:(Int×List UInt8)⊕((Int×List UInt8))}(h:fQ l s9 s13=some r):dF (bf (aI aR (d+0)) KK 41 KE) 0 (oz [1,5,6,7] (og l s9 s13)) (G6 l s9 r):=by
 unfold fQ at h
 exact bW nB Om h (.br 25 (λ_=>.v 30 (.int .u8 ((pY (IntKind.i64.wrap (128+(Int.tmod s13.1 128)))).toNat:Int))<|.ob (NG _:@Eq (Option AV) (some (.int .u8 (IntKind.u8.wrap (IntKind.i64.wrap (128+(Int.tmod s13.1 128)))))) (some (.int .u8 ((pY (IntKind.i64.wrap (128+(Int.tmod s13.1 128)))).toNat:Int))))<|.gd λQV=>Ap oL 32 QV<|E0 [1,5,6,7]) λ_=>E0 [1,5,6,7])
theorem Iz(d:Nat){l:List Int}{s9:Int×List UInt8}{s13:Int×List UInt8}{r:(Int×List UInt8)}(h:zu l s9 s13=some r):dF (fF (bf (aI aR (d+0)) KK 41 KE) [1,5,6,7] KK) 0 (oz [1,5,6,7] (og l s9 s13)) (qQ l s9 r) :=
 dA (st:=og l s9) (fin:=qQ l s9) (step:=fQ l s9) (λe=>by(intro h;cases h)) (λs x h=>Iy d h) KK s13 r h
def oh(l:List Int)(s9:Int×List UInt8):List AV×WH:=([(UN l),(.acc 0 0 1 s9.2.length true),(.int .i64 s9.1)],[(some (.cells (gZ s9.2) false true))])
def qR(l:List Int):Unit⊕(List UInt8)→Ex×Fast×WH:=fun
 |.inl e=>(.ret,[(4,(.slice none 1 0 0 true))],[])
 |.inr e=>((.exit 0),[(5,(.acc 0 0 1 e.length true))],[(some (.cells (gZ e) false true))])
abbrev G7(l:List Int):=cZ [1,5,6] (oh l) (qR l)
def mo(l:List Int)(s9:Int×List UInt8):Option ((Int×List UInt8)⊕(Unit⊕(List UInt8))) :=
 cond (decide (s9.1<(l.length:Int))) ((iW l s9.1).bind λ(x10:Int)=>(GZ x10).bind λ(y8:Bool)=>cond (!y8) (some (.inr (.inl ()))) ((zu l s9 (x10,s9.2)).bind λ(Cz:(Int×List UInt8))=>gd (dS 1 (Cz.2++[(pY Cz.1)]).length) (some (.inl ((IntKind.i64.wrap (s9.1+1)),(Cz.2++[(pY Cz.1)])))))) (some (.inr (.inr s9.2)))
def zw(l:List Int)(s9:Int×List UInt8):Option (Unit⊕(List UInt8)):=dw (mo l) KK s9
theorem IB(d:Nat){l:List Int}{s9:Int×List UInt8}{r:(Int×List UInt8)⊕(Unit⊕(List UInt8))}(h:mo l s9=some r):dF (bf (aI aR (d+1)) KK 41 KD) 0 (oz [1,5,6] (oh l s9)) (G7 l r):=by
 unfold mo at h
 exact bW nB Ol h (.br 14 (λ_=>.bd λx10 UD=>Ix R_I 19 UD<|.bd λy8 Oy=>EJ (UE (d+0) Oy)<|.br 23 (λ_=>E0 [4]) λ_=>.bd λCz Rk=>Lp [none,none,none,none] [] [] (Iz (d+1) Rk)<|.v 37 (.int .u8 ((pY Cz.1).toNat:Int))<|.ob (NG _:@Eq (Option AV) (some (.int .u8 (IntKind.u8.wrap Cz.1))) (some (.int .u8 ((pY Cz.1).toNat:Int))))<|.gd λq16=>Ap oL 39 q16<|E0 [1,5,6]) λ_=>E0 [5])
theorem Av(d:Nat){l:List Int}{s9:Int×List UInt8}{r:Unit⊕(List UInt8)}(h:zw l s9=some r):dF (fF (bf (aI aR (d+1)) KK 41 KD) [1,5,6] KK) 0 (oz [1,5,6] (oh l s9)) (qR l r) :=
 dA (st:=oh l) (fin:=qR l) (step:=mo l) (λe=>by rcases e with e | e<;>(intro h;cases h)) (λs x h=>IB d h) KK s9 r h
def zx(aU:List UInt8)(l:List Int):Option (List UInt8) :=
 gd (dS 1 aU.length) ((zw l (0,aU)).bind λ(xM:Unit⊕(List UInt8))=>cond (qw xM) (some []) (some (qC xM)))
def lF(aU:List UInt8)(l:List Int)(r:List UInt8):AV×WH:=((.acc 0 0 1 r.length true),[(some (.cells (gZ r) false true))])
theorem OC(d:Nat){aU:List UInt8}{l:List Int}{r:List UInt8}(h:zx aU l=some r):Spec (aI aR (d+2)) 106 [(jl aU),(UN l)] [] (lF aU l r).1 (lF aU l r).2:=by
 unfold zx at h
 exact bC nB ZV h (.gd λq1=>UM oL 10 q1<|.bd λxM Rj=>.ite (λYS=>Lp [none,none,none] [] [] (uW (il YS) (Av (d+0) Rj))<|.yC (.fin (some true) [] none) _ (λr=>@Eq AV (.acc 0 0 1 0 true) (lF aU l r).1∧@Eq WH [(some (.cells (gZ []) false true))] (lF aU l r).2) (by show _∧_;refine⟨?_, ?_⟩<;>first | rfl |(simp only[lF,dH,aF,List.length_replicate,aY,fu,aJ,aO,Nat.add_zero,Nat.zero_add];done) | simp[lF])) λYS=>Lp [none,none,none] [] [] (uW (H_ YS) (Av (d+0) Rj))<|Fn Tw [] none)
def om(l:List (List UInt8))(s10:Int×List UInt8):List AV×WH:=([(jw l),(.acc 0 0 1 s10.2.length true),(.int .i64 s10.1)],[(some (.cells (gZ s10.2) false true))])
def qU(l:List (List UInt8)):(List UInt8)→Ex×Fast×WH:=λe=>((.exit 0),[(5,(.acc 0 0 1 e.length true))],[(some (.cells (gZ e) false true))])
abbrev G8(l:List (List UInt8)):=cZ [1,5,6] (om l) (qU l)
def kC(l:List (List UInt8))(s10:Int×List UInt8):Option ((Int×List UInt8)⊕((List UInt8))) :=
 cond (decide (s10.1<(l.length:Int))) ((iW l s10.1).bind λ(y8:List UInt8)=>(zx s10.2 ([(y8.length:Int)])).bind λ(nT:List UInt8)=>(iW l s10.1).bind λ(M4:List UInt8)=>(D7 [M4]).bind λ(MH:Int)=>(sZ MH).bind λ(Cz:List UInt8)=>gd (dS 1 (nT++Cz).length) ((iW l s10.1).bind λ(xM:List UInt8)=>gd (dS 1 ((nT++Cz)++xM).length) (some (.inl ((IntKind.i64.wrap (s10.1+1)),((nT++Cz)++xM)))))) (some (.inr s10.2))
def zy(l:List (List UInt8))(s10:Int×List UInt8):Option ((List UInt8)):=dw (kC l) KK s10
theorem IC(d:Nat){l:List (List UInt8)}{s10:Int×List UInt8}{r:(Int×List UInt8)⊕((List UInt8))}(h:kC l s10=some r):dF (bf (aI aR (d+2)) KK 41 Oa) 0 (oz [1,5,6] (om l s10)) (G8 l r):=by
 unfold kC at h
 exact bW nB QM h (.br 13 (λ_=>.bd λy8 Oy=>Ix vB 19 Oy<|.bd λnT KJ=>Cl [] Fo [] (OC (d+0) KJ)<|.bd λM4 YL=>Ix vB 27 YL<|.v 29 (.str M4)<|.ob (by rw[show gZ M4=(M4).map mg from rfl,fU];rfl:(dI (gZ M4)).map AV.str=some (.str M4))<|.bd λMH QV=>EJ (MP (d+0) QV)<|.bd λCz Rk=>Cl [] Fo [] (GR (d+1) Rk)<|.gd λq16=>Ap oL 33 q16<|.bd λxM Rj=>Ix vB 37 Rj<|.gd λX4=>Ap oL 39 X4<|E0 [1,5,6]) λ_=>E0 [5])
theorem IE(d:Nat){l:List (List UInt8)}{s10:Int×List UInt8}{r:(List UInt8)}(h:zy l s10=some r):dF (fF (bf (aI aR (d+2)) KK 41 Oa) [1,5,6] KK) 0 (oz [1,5,6] (om l s10)) (qU l r) :=
 dA (st:=om l) (fin:=qU l) (step:=kC l) (λe=>by(intro h;cases h)) (λs x h=>IC d h) KK s10 r h
def vN(aU:List UInt8)(l:List (List UInt8)):Option (List UInt8) :=
 gd (dS 1 aU.length) ((zy l (0,aU)).bind λ(UO:(List UInt8))=>some UO)
def CV(aU:List UInt8)(l:List (List UInt8))(r:List UInt8):AV×WH:=((jl r),[])
theorem G9(d:Nat){aU:List UInt8}{l:List (List UInt8)}{r:List UInt8}(h:vN aU l=some r):Spec (aI aR (d+3)) 77 [(jl aU),(jw l)] [] (CV aU l r).1 (CV aU l r).2:=by
 unfold vN at h
 exact bC nB aaT h (.gd λq1=>UM oL 9 q1<|.bd λUO Y6=>Lp [none,none,none] [] [] (IE (d+0) Y6)<|Fn Fo [] none)
abbrev uU(s11:Int×List (List UInt8))(l:List (List UInt8)):Fast×WH:=([(0,(jw l)),(3,(.acc 0 0 1 s11.2.length true)),(4,(.int .i64 s11.1))],[(some (.cells (o8 s11.2) false true))])
def tQ(s11:Int×List (List UInt8))(l:List (List UInt8)):Unit⊕Unit→Ex×Fast×WH:=fun
 |.inl e=>(.normal,[(0,(jw l)),(3,(.acc 0 0 1 s11.2.length true)),(4,(.int .i64 s11.1))],[(some (.cells (o8 s11.2) false true))])
 |.inr e=>((.exit 0),[(3,(.acc 0 0 1 s11.2.length true))],[(some (.cells (o8 s11.2) false true))])
def kE(s11:Int×List (List UInt8))(l:List (List UInt8)):Option (Unit⊕Unit) :=
 cond (decide (s11.1<(l.length:Int))) (cond (decide (s11.1<5)) (some (.inl ())) (some (.inr ()))) (some (.inr ()))
theorem ng(d:Nat){s11:Int×List (List UInt8)}{l:List (List UInt8)}{r:Unit⊕Unit}(h:kE s11 l=some r):dF (bf (aI aR (d+0)) KK 24 wO) 0 (uU s11 l) (tQ s11 l r):=by
 unfold kE at h
 exact bW nB xJ h (.br 9 (λ_=>.br 12 (λ_=>E0 [0,3,4]) λ_=>E0 [3]) λ_=>E0 [3])
def fT(l:List (List UInt8))(s11:Int×List (List UInt8)):List AV×WH:=([(jw l),(.acc 0 0 1 s11.2.length true),(.int .i64 s11.1)],[(some (.cells (o8 s11.2) false true))])
def iN(l:List (List UInt8)):(List (List UInt8))→Ex×Fast×WH:=λe=>((.exit 0),[(3,(.acc 0 0 1 e.length true))],[(some (.cells (o8 e) false true))])
abbrev uV(l:List (List UInt8)):=cZ [0,3,4] (fT l) (iN l)
def gB(l:List (List UInt8))(s11:Int×List (List UInt8)):Option ((Int×List (List UInt8))⊕((List (List UInt8)))) :=
 (kE s11 l).bind λ(nT:Unit⊕Unit)=>cond (qw nT) ((iW l s11.1).bind λ(MH:List UInt8)=>(wX MH 60).bind λ(Cz:List UInt8)=>gd (dS 24 (s11.2++[Cz]).length) (some (.inl ((IntKind.i64.wrap (s11.1+1)),(s11.2++[Cz]))))) (some (.inr s11.2))
def oP(l:List (List UInt8))(s11:Int×List (List UInt8)):Option ((List (List UInt8))):=dw (gB l) KK s11
theorem vO(d:Nat){l:List (List UInt8)}{s11:Int×List (List UInt8)}{r:(Int×List (List UInt8))⊕((List (List UInt8)))}(h:gB l s11=some r):dF (bf (aI aR (d+1)) KK 24 Gh) 0 (oz [0,3,4] (fT l s11)) (uV l r):=by
 unfold gB at h
 exact bW nB JD h (.bd λnT KJ=>.ite (λGA=>Jn [0,3,4] [none,none,none] [] [] (uW (il GA) (ng (d+1) KJ))<|.bd λMH QV=>Ix vB 18 QV<|.bd λCz Rk=>Cl [] Fo [] (GJ (d+0) Rk)<|.gd λq16=>Ap vB 22 q16<|E0 [0,3,4]) λGA=>Jn [0,3,4] [none,none,none] [] [] (uW (H_ GA) (ng (d+1) KJ))<|E0 [3])
theorem vP(d:Nat){l:List (List UInt8)}{s11:Int×List (List UInt8)}{r:(List (List UInt8))}(h:oP l s11=some r):dF (fF (bf (aI aR (d+1)) KK 24 Gh) [0,3,4] KK) 0 (oz [0,3,4] (fT l s11)) (iN l r) :=
 dA (st:=fT l) (fin:=iN l) (step:=gB l) (λe=>by(intro h;cases h)) (λs x h=>vO d h) KK s11 r h
def jV(l:List (List UInt8)):Option (List (List UInt8)) :=
 (oP l (0,[])).bind λ(xM:(List (List UInt8)))=>some xM
def oo(l:List (List UInt8))(r:List (List UInt8)):AV×WH:=((.acc 0 0 1 r.length true),[(some (.cells (o8 r) false true))])
theorem zA(d:Nat){l:List (List UInt8)}{r:List (List UInt8)}(h:jV l=some r):Spec (aI aR (d+2)) 32 [(jw l)] [] (oo l r).1 (oo l r).2:=by
 unfold jV at h
 exact bC nB ZL h (.bd λxM Rj=>Lp [none,Tw,none] [] [] (vP (d+0) Rj)<|Fn none [] none)
def oq(bH:Int)(bg:List UInt8):Option (aQ) :=
 (pF bg).bind λ(x1:List (List UInt8)×Int)=>cond (decide (x1.2<(bg.length:Int))) ((yL bg 0 x1.2).bind λ(x2:List UInt8)=>(rQ x2 bH bg).bind λ(x3:Bool×aQ)=>some x3.2) (some (⟨bg,bH⟩:aQ))
def vQ(bH:Int)(bg:List UInt8)(r:aQ):AV×WH:=((.tuple []),[(some (.cells (b_ r) false false)),(some (.cells (gZ bg) true true))])
theorem G_(d:Nat){bH:Int}{bg:List UInt8}{r:aQ}(h:oq bH bg=some r):Spec (aI aR (d+4)) 39 [(.ptr (some (0,0)))] [(some (.cells [(.acc 1 0 1 bg.length true),(.int .i64 bH)] false false)),(some (.cells (gZ bg) false true))] (vQ bH bg r).1 (vQ bH bg r).2:=by
 unfold oq at h
 exact bC nB ZM h (.bd λx1 q1=>Cl [] Fo [] (zq (d+0) q1)<|.br 18 (λ_=>.bd λx2 q2=>.v 25 (.acc 1 0 1 x2.length false)<|.ob (Mc oL q2:wP (.slice 1 (.c (.acc 1 0 1 bg.length true)) none (some (.c (.int .i64 x1.2))) none)=some (.acc 1 0 1 x2.length false))<|.bd λx3 q3=>Db (by(try rw[Ma oL q2]);(try rw[DJ oL q2]);exact GY (d+2) q3:Spec (aI aR (d+3)) 75 [(.ptr (some (0,0))),(.list 1 x2.length (((gZ bg).drop (0)).take (x2.length*1)) false)] [(some (.cells [(.acc 1 0 1 bg.length true),(.int .i64 bH)] false false)),(some (.cells (gZ bg) true true))] (.bool x3.1) [(some (.cells (b_ x3.2) false false)),(some (.cells (gZ bg) true true))])<|Fn none [] Fo) λ_=>Fn none [] Fo)
def lG(bH:Int)(bg:List UInt8):Option (Int) :=
 some bH
def qm(bH:Int)(bg:List UInt8)(r:Int):AV×WH:=((.int .i64 r),[(some (.cells [(.acc 1 0 1 bg.length true),(.int .i64 bH)] false false)),(some (.cells (gZ bg) false true))])
theorem Bf(d:Nat){bH:Int}{bg:List UInt8}{r:Int}(h:lG bH bg=some r):Spec (aI aR (d+1)) 24 [(.ptr (some (0,0)))] [(some (.cells [(.acc 1 0 1 bg.length true),(.int .i64 bH)] false false)),(some (.cells (gZ bg) false true))] (qm bH bg r).1 (qm bH bg r).2:=by
 unfold lG at h
 exact bC nB aaw h (Fn Fo [] none)
def gU(a:List (List UInt8))(aU:List (List UInt8))(s3:Int):List AV×WH:=([(jw a),(jw aU),(.int .i64 (a.length:Int)),(.int .i64 s3)],[])
def jH(a:List (List UInt8))(aU:List (List UInt8)):Unit⊕Unit→Ex×Fast×WH:=fun
 |.inl e=>(.ret,[(4,(.bool false))],[])
 |.inr e=>((.exit 0),[],[])
abbrev w_(a:List (List UInt8))(aU:List (List UInt8)):=cZ [0,1,12,13] (gU a aU) (jH a aU)
def eD(a:List (List UInt8))(aU:List (List UInt8))(s3:Int):Option ((Int)⊕(Unit⊕Unit)) :=
 cond (decide (s3<(a.length:Int))) ((iW a s3).bind λ(x4:List UInt8)=>(iW aU s3).bind λ(x5:List UInt8)=>cond (!(x4==x5)) (some (.inr (.inl ()))) (some (.inl (IntKind.i64.wrap (s3+1))))) (some (.inr (.inr ())))
def lW(a:List (List UInt8))(aU:List (List UInt8))(s3:Int):Option (Unit⊕Unit):=dw (eD a aU) KK s3
theorem xW(d:Nat){a:List (List UInt8)}{aU:List (List UInt8)}{s3:Int}{r:(Int)⊕(Unit⊕Unit)}(h:eD a aU s3=some r):dF (bf (aI aR (d+0)) KK 28 NQ) 0 (oz [0,1,12,13] (gU a aU s3)) (w_ a aU r):=by
 unfold eD at h
 exact bW nB Qy h (.br 14 (λ_=>.bd λx4 q4=>Ix vB 18 q4<|.v 20 (.str x4)<|.ob (by rw[show gZ x4=(x4).map mg from rfl,fU];rfl:(dI (gZ x4)).map AV.str=some (.str x4))<|.bd λx5 q5=>Ix vB 23 q5<|.v 25 (.str x5)<|.ob (by rw[show gZ x5=(x5).map mg from rfl,fU];rfl:(dI (gZ x5)).map AV.str=some (.str x5))<|.br 26 (λ_=>E0 [4]) λ_=>E0 [0,1,12,13]) λ_=>E0 [])
theorem oQ(d:Nat){a:List (List UInt8)}{aU:List (List UInt8)}{s3:Int}{r:Unit⊕Unit}(h:lW a aU s3=some r):dF (fF (bf (aI aR (d+0)) KK 28 NQ) [0,1,12,13] KK) 0 (oz [0,1,12,13] (gU a aU s3)) (jH a aU r) :=
 dA (st:=gU a aU) (fin:=jH a aU) (step:=eD a aU) (λe=>by rcases e with e | e<;>(intro h;cases h)) (λs x h=>xW d h) KK s3 r h
def jI(a:List (List UInt8))(aU:List (List UInt8)):Option (Bool) :=
 cond ((a.length:Int) != (aU.length:Int)) (some false) ((lW a aU 0).bind λ(x6:Unit⊕Unit)=>cond (qw x6) (some false) (some true))
def qo(a:List (List UInt8))(aU:List (List UInt8))(r:Bool):AV×WH:=((.bool r),[])
theorem Bg(d:Nat){a:List (List UInt8)}{aU:List (List UInt8)}{r:Bool}(h:jI a aU=some r):Spec (aI aR (d+1)) 36 [(jw a),(jw aU)] [] (qo a aU r).1 (qo a aU r).2:=by
 unfold jI at h
 exact bC nB aaE h (.br 10 (λ_=>Fn Fo [] none) λ_=>.bd λx6 q6=>.ite (λOv=>Lp [none,none,none,none] [] [] (uW (il Ov) (oQ (d+0) q6))<|Fn Fo [] none) λOv=>Lp [none,none,none,none] [] [] (uW (H_ Ov) (oQ (d+0) q6))<|Fn Fo [] none)
def ou(bH:aQ):Option (Int×aQ) :=
 some ((IntKind.i64.wrap ((bH.B.length:Int)-bH.DK)),(⟨bH.B,(bH.B.length:Int)⟩:aQ))
def tu(bH:aQ)(r:Int×aQ):AV×WH:=((.int .i64 r.1),[(some (.cells (b_ r.2) false false))])
theorem D_(d:Nat){bH:aQ}{r:Int×aQ}(h:ou bH=some r):Spec (aI aR (d+1)) 37 [(.ptr (some (0,0)))] [(some (.cells (b_ bH) false false))] (tu bH r).1 (tu bH r).2:=by
 unfold ou at h
 exact bC nB aaF h (.st none<|Fn Fo [] none)
def j_(keep:Int)(bH:aQ):Option (Int×Int×List UInt8) :=
 (zR keep 0 (IntKind.i64.wrap ((bH.B.length:Int)-bH.DK))).bind λ(x1:Int)=>(yL bH.B 0 (IntKind.i64.wrap (bH.DK+x1))).bind λ(x2:List UInt8)=>gd (dS 1 x2.length) (some (x1,(x2.length:Int),x2))
def rA(keep:Int)(bH:aQ)(r:Int×Int×List UInt8):AV×WH:=((.int .i64 r.1),[(some (.cells [(.acc 1 0 1 r.2.2.length true),(.int .i64 r.2.1)] false false)),(some (.cells (gZ r.2.2) false true))])
theorem CW(d:Nat){keep:Int}{bH:aQ}{r:Int×Int×List UInt8}(h:j_ keep bH=some r):Spec (aI aR (d+2)) 38 [(.ptr (some (0,0))),(.int .i64 keep)] [(some (.cells (b_ bH) false false))] (rA keep bH r).1 (rA keep bH r).2:=by
 unfold j_ at h
 exact bC nB aaG h (.bd λx1 q1=>EJ (MJ (d+0) q1)<|.bd λx2 q2=>Si oL 30 q2<|.gd λq3=>UM oL 31 q3<|.st none<|.st none<|Fn Fo [] none)
def jJ(aU:List UInt8)(bH:aQ):Option (Bool×aQ) :=
 cond (decide ((aU.length:Int)>65536)) (some (false,bH)) (gd (dS 1 aU.length) (some (true,(⟨aU,(aU.length:Int)⟩:aQ))))
def tC(aU:List UInt8)(bH:aQ)(r:Bool×aQ):AV×WH:=((.bool r.1),[(some (.cells (b_ r.2) false false))])
theorem vR(d:Nat){aU:List UInt8}{bH:aQ}{r:Bool×aQ}(h:jJ aU bH=some r):Spec (aI aR (d+1)) 75 [(.ptr (some (0,0))),(jl aU)] [(some (.cells (b_ bH) false false))] (tC aU bH r).1 (tC aU bH r).2:=by
 unfold jJ at h
 exact bC nB ZO h (.br 7 (λ_=>Fn Fo [] Fo) λ_=>.gd λq1=>UM oL 11 q1<|.st none<|.st none<|Fn Fo [] Fo)
def rR(l:List (List UInt8))(bH:aQ):Option (Bool×aQ) :=
 (zS l).bind λ(x1:Bool)=>cond (!x1) ((vN [] l).bind λ(x2:List UInt8)=>(jJ x2 bH).bind λ(x3:Bool×aQ)=>some (x3.1,x3.2)) (some (false,bH))
def vS(l:List (List UInt8))(bH:aQ)(r:Bool×aQ):AV×WH:=((.bool r.1),[(some (.cells (b_ r.2) false false))])
theorem He(d:Nat){l:List (List UInt8)}{bH:aQ}{r:Bool×aQ}(h:rR l bH=some r):Spec (aI aR (d+4)) 41 [(.ptr (some (0,0))),(jw l)] [(some (.cells (b_ bH) false false))] (vS l bH r).1 (vS l bH r).2:=by
 unfold rR at h
 exact bC nB aaI h (.bd λx1 q1=>EJ (JL (d+2) q1)<|.br 8 (λ_=>.bd λx2 q2=>Cl [] Fo [] (G9 (d+0) q2)<|.bd λx3 q3=>Cl [] Fo [] (vR (d+2) q3)<|Fn Fo [] none) λ_=>Fn Fo [] none)
def gV(parts:List (List UInt8))(bH:aQ)(s2:Int×Int):List AV×WH:=([(.ptr (some (0,0))),(jw parts),(.int .i64 s2.1),(.int .i64 s2.2)],[(some (.cells (b_ bH) false false))])
def jK(parts:List (List UInt8))(bH:aQ):Int→Ex×Fast×WH:=λe=>((.exit 0),[(0,(.ptr (some (0,0)))),(1,(jw parts)),(5,(.int .i64 e))],[(some (.cells (b_ bH) false false))])
abbrev xg(parts:List (List UInt8))(bH:aQ):=cZ [0,1,5,6] (gV parts bH) (jK parts bH)
def eF(parts:List (List UInt8))(bH:aQ)(s2:Int×Int):Option ((Int×Int)⊕(Int)) :=
 cond (decide (s2.2<(parts.length:Int))) ((iW parts s2.2).bind λ(x3:List UInt8)=>some (.inl ((IntKind.i64.wrap (s2.1+(x3.length:Int))),(IntKind.i64.wrap (s2.2+1))))) (some (.inr s2.1))
def lX(parts:List (List UInt8))(bH:aQ)(s2:Int×Int):Option (Int):=dw (eF parts bH) KK s2
theorem xX(d:Nat){parts:List (List UInt8)}{bH:aQ}{s2:Int×Int}{r:(Int×Int)⊕(Int)}(h:eF parts bH s2=some r):dF (bf (aI aR (d+0)) KK 48 NT) 1 (oz [0,1,5,6] (gV parts bH s2)) (xg parts bH r):=by
 unfold eF at h
 exact bW nB Qz h (.br 16 (λ_=>.bd λx3 q3=>Ix vB 22 q3<|E0 [0,1,5,6]) λ_=>E0 [0,1,5])
theorem xY(d:Nat){parts:List (List UInt8)}{bH:aQ}{s2:Int×Int}{r:Int}(h:lX parts bH s2=some r):dF (fF (bf (aI aR (d+0)) KK 48 NT) [0,1,5,6] KK) 1 (oz [0,1,5,6] (gV parts bH s2)) (jK parts bH r) :=
 dA (st:=gV parts bH) (fin:=jK parts bH) (step:=eF parts bH) (λe=>by(intro h;cases h)) (λs x h=>xX d h) KK s2 r h
def gW(parts:List (List UInt8))(s8:Int×aQ):List AV×WH:=([(.ptr (some (0,0))),(jw parts),(.int .i64 s8.1)],[(some (.cells (b_ s8.2) false false))])
def jL(parts:List (List UInt8)):aQ→Ex×Fast×WH:=λe=>((.exit 2),[],[(some (.cells (b_ e) false false))])
abbrev xq(parts:List (List UInt8)):=cZ [0,1,7] (gW parts) (jL parts)
def eG(parts:List (List UInt8))(s8:Int×aQ):Option ((Int×aQ)⊕(aQ)) :=
 cond (decide (s8.1<(parts.length:Int))) (gd (dS 1 s8.2.B.length) ((iW parts s8.1).bind λ(x10:List UInt8)=>gd (dS 1 (s8.2.B++x10).length) (some (.inl ((IntKind.i64.wrap (s8.1+1)),(⟨(s8.2.B++x10),s8.2.DK⟩:aQ)))))) (some (.inr s8.2))
def lY(parts:List (List UInt8))(s8:Int×aQ):Option (aQ):=dw (eG parts) KK s8
theorem xZ(d:Nat){parts:List (List UInt8)}{s8:Int×aQ}{r:(Int×aQ)⊕(aQ)}(h:eG parts s8=some r):dF (bf (aI aR (d+0)) KK 48 NU) 1 (oz [0,1,7] (gW parts s8)) (xq parts r):=by
 unfold eG at h
 exact bW nB QA h (.br 31 (λ_=>.gd λq9=>UM oL 40 q9<|.bd λx10 UD=>Ix vB 43 UD<|.gd λOy=>Ap oL 45 Oy<|.st none<|E1 [0,1,7] [none,none,none] [Fo] []) λ_=>E0 [])
theorem yc(d:Nat){parts:List (List UInt8)}{s8:Int×aQ}{r:aQ}(h:lY parts s8=some r):dF (fF (bf (aI aR (d+0)) KK 48 NU) [0,1,7] KK) 1 (oz [0,1,7] (gW parts s8)) (jL parts r) :=
 dA (st:=gW parts) (fin:=jL parts) (step:=eG parts) (λe=>by(intro h;cases h)) (λs x h=>xZ d h) KK s8 r h
def iw(parts:List (List UInt8))(bH:aQ):Option (Bool×aQ) :=
 (lX parts bH ((bH.B.length:Int),0)).bind λ(x4:Int)=>cond (decide (x4>65536)) (some (false,bH)) ((lY parts (0,bH)).bind λ(nT:aQ)=>some (true,nT))
def qp(parts:List (List UInt8))(bH:aQ)(r:Bool×aQ):AV×WH:=((.bool r.1),[(some (.cells (b_ r.2) false false))])
theorem tF(d:Nat){parts:List (List UInt8)}{bH:aQ}{r:Bool×aQ}(h:iw parts bH=some r):Spec (aI aR (d+1)) 42 [(.ptr (some (0,0))),(jw parts)] [(some (.cells (b_ bH) false false))] (qp parts bH r).1 (qp parts bH r).2:=by
 unfold iw at h
 exact bC nB aaJ h (.bd λx4 q4=>Lp [none,none,none,none] [] [] (xY (d+0) q4)<|.br 27 (λ_=>Fn Fo [] none) λ_=>.bd λnT KJ=>Lp [none,none,none] [] [] (yc (d+0) KJ)<|Fn Fo [] none)
def ow(bH:aQ):Option (aQ) :=
 (pF bH.B).bind λ(x1:List (List UInt8)×Int)=>cond (decide (x1.2<(bH.B.length:Int))) ((yL bH.B 0 x1.2).bind λ(x2:List UInt8)=>(jJ x2 bH).bind λ(x3:Bool×aQ)=>some x3.2) (some bH)
def vT(bH:aQ)(r:aQ):AV×WH:=((.tuple []),[(some (.cells (b_ r) false false))])
theorem Hf(d:Nat){bH:aQ}{r:aQ}(h:ow bH=some r):Spec (aI aR (d+4)) 39 [(.ptr (some (0,0)))] [(some (.cells (b_ bH) false false))] (vT bH r).1 (vT bH r).2:=by
 unfold ow at h
 exact bC nB ZM h (.bd λx1 q1=>Cl [] Fo [] (zq (d+0) q1)<|.br 18 (λ_=>.bd λx2 q2=>Si oL 25 q2<|.bd λx3 q3=>Cl [] Fo [] (vR (d+2) q3)<|Fn none [] none) λ_=>Fn none [] none)
def vU(l:List (List UInt8))(bH:aQ):Option (Bool×aQ) :=
 (zS l).bind λ(x1:Bool)=>cond (!x1) ((vN [] l).bind λ(x2:List UInt8)=>(iw [x2] bH).bind λ(x3:Bool×aQ)=>some (x3.1,x3.2)) (some (false,bH))
def CX(l:List (List UInt8))(bH:aQ)(r:Bool×aQ):AV×WH:=((.bool r.1),[(some (.cells (b_ r.2) false false))])
theorem Hg(d:Nat){l:List (List UInt8)}{bH:aQ}{r:Bool×aQ}(h:vU l bH=some r):Spec (aI aR (d+4)) 43 [(.ptr (some (0,0))),(jw l)] [(some (.cells (b_ bH) false false))] (CX l bH r).1 (CX l bH r).2:=by
 unfold vU at h
 exact bC nB aaK h (.bd λx1 q1=>EJ (JL (d+2) q1)<|.br 8 (λ_=>.bd λx2 q2=>Cl [] Fo [] (G9 (d+0) q2)<|.bd λx3 q3=>Cl [] Fo [] (tF (d+2) q3)<|Fn Fo [] none) λ_=>Fn Fo [] none)
abbrev tH(calls:List aT)(raw:List UInt8)(x2:Int×List UInt8):Fast×WH:=([(0,(fB calls)),(1,(jl raw)),(5,(.ptr (some (0,0)))),(6,(.ptr (some (1,0)))),(7,(.ptr (some (2,0))))],[(some (.cells [(.acc 3 0 1 x2.2.length true),(.int .i64 x2.1)] false false)),(some (.cells [(.slice none 1 0 0 true),(.int .i64 0)] false false)),(some (.cells [(.ptr (some (0,0)))] false false)),(some (.cells (gZ x2.2) false true))])
def rT(calls:List aT)(raw:List UInt8)(x2:Int×List UInt8):Unit⊕Unit→Ex×Fast×WH:=fun
 |.inl e=>(.ret,[(4,(.bool false))],[])
 |.inr e=>(.normal,[(0,(fB calls)),(1,(jl raw)),(5,(.ptr (some (0,0)))),(6,(.ptr (some (1,0)))),(7,(.ptr (some (2,0))))],[(some (.cells [(.acc 3 0 1 x2.2.length true),(.int .i64 x2.1)] false false)),(some (.cells [(.slice none 1 0 0 true),(.int .i64 0)] false false)),(some (.cells [(.ptr (some (0,0)))] false false)),(some (.cells (gZ x2.2) false true))])
def eU(calls:List aT)(raw:List UInt8)(x2:Int×List UInt8):Option (Unit⊕Unit) :=
 (kJ).bind λ(x3:Bool)=>cond (!x3) (some (.inl ())) (some (.inr ()))
theorem lJ(d:Nat){calls:List aT}{raw:List UInt8}{x2:Int×List UInt8}{r:Unit⊕Unit}(h:eU calls raw x2=some r):dF (bf (aI aR (d+8)) KK 173 JB) 0 (tH calls raw x2) (rT calls raw x2 r):=by
 unfold eU at h
 exact bW nB Ku h (.bd λx3 q3=>EJ (zY (d+0) q3)<|.br 23 (λ_=>E0 [4]) λ_=>E1 [0,1,5,6,7] [none,none,none,none,none] [] [.slice none 3 0 0 true,.undef,.undef,.undef,.undef])
abbrev tJ(OD:aT)(oI:Int×Int×aQ×List UInt8)(Fj:List (List UInt8))(raw:List UInt8)(calls:List aT):Fast×WH:=([(1,(jl raw)),(5,(.ptr (some (0,0)))),(6,(.ptr (some (1,0)))),(7,(.ptr (some (2,0)))),(9,(.ptr (some (3,0)))),(10,(.acc 4 0 1 Fj.length true)),(31,(fB calls)),(32,(.int .i64 (calls.length:Int))),(33,(.int .i64 oI.1))],[(some (.cells [(.acc 5 0 1 oI.2.2.2.length true),(.int .i64 oI.2.1)] false false)),(some (.cells (b_ oI.2.2.1) false false)),(some (.cells [(.ptr (some (0,0)))] false false)),(some (.cells (iX OD) false false)),(some (.cells (o8 Fj) false true)),(some (.cells (gZ oI.2.2.2) false true))])
def rU(OD:aT)(oI:Int×Int×aQ×List UInt8)(Fj:List (List UInt8))(raw:List UInt8)(calls:List aT):Unit⊕(Int×aQ×List UInt8)→Ex×Fast×WH:=fun
 |.inl e=>(.ret,[(4,(.bool false))],[])
 |.inr e=>(.normal,[(1,(jl raw)),(5,(.ptr (some (0,0)))),(6,(.ptr (some (1,0)))),(7,(.ptr (some (2,0)))),(31,(fB calls)),(32,(.int .i64 (calls.length:Int))),(33,(.int .i64 oI.1))],[(some (.cells [(.acc 3 0 1 e.2.2.length true),(.int .i64 e.1)] false false)),(some (.cells (b_ e.2.1) false false)),(some (.cells [(.ptr (some (0,0)))] false false)),(some (.cells (gZ e.2.2) false true))])
def eX(OD:aT)(oI:Int×Int×aQ×List UInt8)(Fj:List (List UInt8))(raw:List UInt8)(calls:List aT):Option (Unit⊕(Int×aQ×List UInt8)) :=
 (mH OD.What 9).bind λ(Y7:Int)=>cond (Y7==0) ((kU oI.2.1 oI.2.2.2).bind λ(x74:Int×Int)=>(ou oI.2.2.1).bind λ(x75:Int×aQ)=>cond (x74.1 != x75.1) (some (.inl ())) (some (.inr (x74.2,x75.2,oI.2.2.2)))) (cond (Y7==1) ((mH OD.N 120).bind λ(x76:Int)=>(iP (IntKind.i64.wrap (x76-2)) oI.2.1 oI.2.2.2).bind λ(x77:Int×Int×List UInt8)=>(j_ (IntKind.i64.wrap (x76-2)) oI.2.2.1).bind λ(x78:Int×Int×List UInt8)=>cond (x77.1 != x78.1) (some (.inl ())) ((kV x77.2.1 x77.2.2).bind λ(x79:Int×List UInt8)=>(oq x78.2.1 x78.2.2).bind λ(x80:aQ)=>some (.inr (x79.1,x80,x79.2)))) (cond (Y7==2) ((j6 Fj oI.2.1 oI.2.2.2).bind λ(x81:Bool×Int×List UInt8)=>(rR Fj oI.2.2.1).bind λ(x82:Bool×aQ)=>cond (!(x81.1==x82.1)) (some (.inl ())) (some (.inr (x81.2.1,x82.2,x81.2.2)))) (cond (Y7==3) ((wX raw 40).bind λ(x83:List UInt8)=>(ig [x83] oI.2.1 oI.2.2.2).bind λ(x84:Bool×List UInt8)=>(iw [x83] oI.2.2.1).bind λ(x85:Bool×aQ)=>cond (!(x84.1==x85.1)) (some (.inl ())) ((kV oI.2.1 x84.2).bind λ(x86:Int×List UInt8)=>(ow x85.2).bind λ(x87:aQ)=>some (.inr (x86.1,x87,x86.2)))) (cond (Y7==4) ((mH OD.N 4).bind λ(x88:Int)=>gd (PI 1 (IntKind.i64.wrap (3999+x88))) (gd (dS 24 (Fj++[(List.replicate (IntKind.i64.wrap (3999+x88)).toNat ((0:UInt8):UInt8))]).length) ((mH OD.N 3).bind λ(x91:Int)=>cond (x91==0) ((jP (Fj++[(List.replicate (IntKind.i64.wrap (3999+x88)).toNat ((0:UInt8):UInt8))]) oI.2.1 oI.2.2.2).bind λ(x92:Bool×List UInt8)=>(vU (Fj++[(List.replicate (IntKind.i64.wrap (3999+x88)).toNat ((0:UInt8):UInt8))]) oI.2.2.1).bind λ(x93:Bool×aQ)=>cond (!(x92.1==x93.1)) (some (.inl ())) (some (.inr (oI.2.1,x93.2,x92.2)))) (some (.inr (oI.2.1,oI.2.2.1,oI.2.2.2)))))) ((jP Fj oI.2.1 oI.2.2.2).bind λ(x94:Bool×List UInt8)=>(vU Fj oI.2.2.1).bind λ(x95:Bool×aQ)=>cond (!(x94.1==x95.1)) (some (.inl ())) (some (.inr (oI.2.1,x95.2,x94.2))))))))
theorem lK(d:Nat){OD:aT}{oI:Int×Int×aQ×List UInt8}{Fj:List (List UInt8)}{raw:List UInt8}{calls:List aT}{r:Unit⊕(Int×aQ×List UInt8)}(h:eX OD oI Fj raw calls=some r):dF (bf (aI aR (d+7)) KK 173 p9) 0 (tJ OD oI Fj raw calls) (rU OD oI Fj raw calls r):=by
 unfold eX at h
 exact bW nB vE h (.bd λY7 q73=>EJ (zQ (d+6) q73)<|.br 50 (λ_=>.bd λx74 q74=>Db (vJ (d+6) q74)<|.bd λx75 q75=>Cl [] Fo [] (D_ (d+6) q75)<|.br 59 (λ_=>E0 [4]) λ_=>E1 [1,5,6,7,31,32,33] [none,none,none,none,none,none,none] [] [.undef,.undef,.undef,.undef,.slice none 3 0 0 true,.undef,.undef]) λ_=>.br 60 (λ_=>.bd λx76 q76=>EJ (zQ (d+6) q76)<|.bd λx77 q77=>Db (uH (d+6) q77)<|.bd λx78 q78=>Cl [] Fo [] (CW (d+5) q78)<|.br 75 (λ_=>E0 [4]) λ_=>.bd λx79 q79=>Db (wV (d+0) q79)<|.bd λx80 q80=>Cl [Fo] none [] (G_ (d+3) q80)<|E1 [1,5,6,7,31,32,33] [none,none,none,none,none,none,none] [] [.undef,.undef,.undef,.undef,.slice none 3 0 0 true,.undef,.undef]) λ_=>.br 82 (λ_=>.bd λx81 q81=>Db (CS (d+2) q81)<|.bd λx82 q82=>Cl [] Fo [] (He (d+3) q82)<|.br 90 (λ_=>E0 [4]) λ_=>E1 [1,5,6,7,31,32,33] [none,none,none,none,none,none,none] [] [.undef,.undef,.undef,.undef,.slice none 3 0 0 true,.undef,.undef]) λ_=>.br 91 (λ_=>.bd λx83 q83=>Cl [] Fo [] (GJ (d+6) q83)<|.bd λx84 q84=>Db (sP (d+4) q84)<|.bd λx85 q85=>Cl [] Fo [] (tF (d+6) q85)<|.br 103 (λ_=>E0 [4]) λ_=>.bd λx86 q86=>Db (wV (d+0) q86)<|.bd λx87 q87=>Cl [Fo] none [] (Hf (d+3) q87)<|E1 [1,5,6,7,31,32,33] [none,none,none,none,none,none,none] [] [.undef,.undef,.undef,.undef,.slice none 3 0 0 true,.undef,.undef]) λ_=>.br 110 (λ_=>.bd λx88 q88=>EJ (zQ (d+6) q88)<|.gd λq89=>.ap 117 (IntKind.i64.wrap (3999+x88)).toNat (gZ (List.replicate (IntKind.i64.wrap (3999+x88)).toNat ((0:UInt8):UInt8)))<|.ob (S9 (n:=(IntKind.i64.wrap (3999+x88))) q89:wMk (.int .i64 (IntKind.i64.wrap (3999+x88))) (.int .i64 (IntKind.i64.wrap (3999+x88))) (IntKind.i64.wrap (3999+x88)).toNat 1)<|.ob (Md (x:=((0:UInt8):UInt8)) oL rfl _:je (IntKind.i64.wrap (3999+x88)).toNat [(.int .u8 0)]=gZ (List.replicate (IntKind.i64.wrap (3999+x88)).toNat ((0:UInt8):UInt8)))<|.gd λq90=>.ap 119 (Fj++[(List.replicate (IntKind.i64.wrap (3999+x88)).toNat ((0:UInt8):UInt8))]).length (o8 (Fj++[(List.replicate (IntKind.i64.wrap (3999+x88)).toNat ((0:UInt8):UInt8))]))<|.ob (by simp:Fj.length+1=(Fj++[(List.replicate (IntKind.i64.wrap (3999+x88)).toNat ((0:UInt8):UInt8))]).length)<|.ob (by first | rfl | simp[o8,jl]:o8 Fj++[(.list 1 (IntKind.i64.wrap (3999+x88)).toNat (gZ (List.replicate (IntKind.i64.wrap (3999+x88)).toNat ((0:UInt8):UInt8))) false)]=o8 (Fj++[(List.replicate (IntKind.i64.wrap (3999+x88)).toNat ((0:UInt8):UInt8))]))<|.ob q90<|.bd λx91 q91=>EJ (zQ (d+6) q91)<|.br 124 (λ_=>.bd λx92 q92=>Db (pO (d+2) q92)<|.bd λx93 q93=>Cl [] Fo [] (Hg (d+3) q93)<|.br 132 (λ_=>E0 [4]) λ_=>E1 [1,5,6,7,31,32,33] [none,none,none,none,none,none,none] [] [.undef,.undef,.undef,.undef,.slice none 3 0 0 true,.undef,.undef]) λ_=>E1 [1,5,6,7,31,32,33] [none,none,none,none,none,none,none] [] [.undef,.undef,.undef,.undef,.slice none 3 0 0 true,.undef,.undef]) λ_=>.bd λx94 q94=>Db (pO (d+2) q94)<|.bd λx95 q95=>Cl [] Fo [] (Hg (d+3) q95)<|.br 49 (λ_=>E0 [4]) λ_=>E1 [1,5,6,7,31,32,33] [none,none,none,none,none,none,none] [] [.undef,.undef,.undef,.undef,.slice none 3 0 0 true,.undef,.undef])
def fD(calls:List aT)(raw:List UInt8)(oI:Int×Int×aQ×List UInt8):List AV×WH:=([(jl raw),(.ptr (some (0,0))),(.ptr (some (1,0))),(.ptr (some (2,0))),(fB calls),(.int .i64 (calls.length:Int)),(.int .i64 oI.1)],[(some (.cells [(.acc 3 0 1 oI.2.2.2.length true),(.int .i64 oI.2.1)] false false)),(some (.cells (b_ oI.2.2.1) false false)),(some (.cells [(.ptr (some (0,0)))] false false)),(some (.cells (gZ oI.2.2.2) false true))])
def gX(calls:List aT)(raw:List UInt8):Unit⊕Unit→Ex×Fast×WH:=fun
 |.inl e=>(.ret,[(4,(.bool false))],[])
 |.inr e=>((.exit 0),[],[])
abbrev tK(calls:List aT)(raw:List UInt8):=cZ [1,5,6,7,31,32,33] (fD calls raw) (gX calls raw)
def dU(calls:List aT)(raw:List UInt8)(oI:Int×Int×aQ×List UInt8):Option ((Int×Int×aQ×List UInt8)⊕(Unit⊕Unit)) :=
 cond (decide (oI.1<(calls.length:Int))) ((iW calls oI.1).bind λ(OD:aT)=>(jV OD.Parts).bind λ(Fj:List (List UInt8))=>(eX OD oI Fj raw calls).bind λ(x96:Unit⊕(Int×aQ×List UInt8))=>cond (qw x96) (some (.inr (.inl ()))) ((pF (qC x96).2.1.B).bind λ(x98:List (List UInt8)×Int)=>(dZ (qC x96).1 (qC x96).2.2).bind λ(x99:List UInt8)=>cond (!(x99==(qC x96).2.1.B)) (some (.inr (.inl ()))) ((lG (qC x96).1 (qC x96).2.2).bind λ(x100:Int)=>cond (x100 != (qC x96).2.1.DK) (some (.inr (.inl ()))) ((iQ (qC x96).1 (qC x96).2.2).bind λ(x101:List (List UInt8))=>(jI x101 x98.1).bind λ(x102:Bool)=>cond (!x102) (some (.inr (.inl ()))) (some (.inl ((IntKind.i64.wrap (oI.1+1)),(qC x96).1,(qC x96).2.1,(qC x96).2.2))))))) (some (.inr (.inr ())))
def jM(calls:List aT)(raw:List UInt8)(oI:Int×Int×aQ×List UInt8):Option (Unit⊕Unit):=dw (dU calls raw) KK oI
theorem tT(d:Nat){calls:List aT}{raw:List UInt8}{oI:Int×Int×aQ×List UInt8}{r:(Int×Int×aQ×List UInt8)⊕(Unit⊕Unit)}(h:dU calls raw oI=some r):dF (bf (aI aR (d+7)) KK 173 Ti) 0 (oz [1,5,6,7,31,32,33] (fD calls raw oI)) (tK calls raw r):=by
 unfold dU at h
 exact bW nB Tj h (.br 34 (λ_=>.bd λOD q71=>Ix uE 35 q71<|.st none<|.bd λFj q72=>Cl [Fo] none [] (zA (d+5) q72)<|.bd λx96 q96=>.ite (λYT=>Jn [1,5,6,7,9,10,31,32,33] [none,none,none,none,none,none,none,none,none] [] [.undef,.undef,.undef,.undef,.undef,.undef,.slice none 3 0 0 true,.undef,.undef] (uW (il YT) (lK (d+0) q96))<|E0 [4]) λYT=>Jn [1,5,6,7,9,10,31,32,33] [none,none,none,none,none,none,none,none,none] [] [.undef,.undef,.undef,.undef,.undef,.undef,.slice none 3 0 0 true,.undef,.undef] (uW (H_ YT) (lK (d+0) q96))<|.bd λx98 q98=>Cl [] Fo [] (zq (d+4) q98)<|.bd λx99 q99=>Db (lU (d+5) q99)<|.v 146 (.str x99)<|.ob (by rw[show gZ x99=(x99).map mg from rfl,fU];rfl:(dI (gZ x99)).map AV.str=some (.str x99))<|.rv 5 (.ptr (some (0,0))) (rfl:@Eq AV (.ptr (some (0,0))) (.ptr (some (0,0))))<|.er<|.ob (rfl:@Eq (Option AV) (some (jl (qC x96).2.1.B)) (some (jl (qC x96).2.1.B)))<|.v 151 (.str (qC x96).2.1.B)<|.ob (by rw[show gZ (qC x96).2.1.B=((qC x96).2.1.B).map mg from rfl,fU];rfl:(dI (gZ (qC x96).2.1.B)).map AV.str=some (.str (qC x96).2.1.B))<|.br 153 (λ_=>E0 [4]) λ_=>.bd λx100 aaX=>Db (Bf (d+6) aaX)<|.br 165 (λ_=>E0 [4]) λ_=>.bd λx101 aaY=>Db (uI (d+0) aaY)<|.bd λx102 aaZ=>EJ (Bg (d+6) aaZ)<|.br 171 (λ_=>E0 [4]) λ_=>E1 [1,5,6,7,31,32,33] [none,none,none,none,none,none,none] [] [.undef,.undef,.undef,.undef,.slice none 3 0 0 true,.undef,.undef]) λ_=>E0 [])
theorem lM(d:Nat){calls:List aT}{raw:List UInt8}{oI:Int×Int×aQ×List UInt8}{r:Unit⊕Unit}(h:jM calls raw oI=some r):dF (fF (bf (aI aR (d+7)) KK 173 Ti) [1,5,6,7,31,32,33] KK) 0 (oz [1,5,6,7,31,32,33] (fD calls raw oI)) (gX calls raw r) :=
 dA (st:=fD calls raw) (fin:=gX calls raw) (step:=dU calls raw) (λe=>by rcases e with e | e<;>(intro h;cases h)) (λs x h=>tT d h) KK oI r h
def jc(calls:List aT)(raw:List UInt8):Option (Bool) :=
 (yU).bind λ(x1:Int)=>(ze x1).bind λ(x2:Int×List UInt8)=>(eU calls raw x2).bind λ(x4:Unit⊕Unit)=>cond (qw x4) (some false) ((jM calls raw (0,x2.1,(⟨[],0⟩:aQ),x2.2)).bind λ(x103:Unit⊕Unit)=>cond (qw x103) (some false) (some true))
def mq(calls:List aT)(raw:List UInt8)(r:Bool):AV×WH:=((.bool r),[])
theorem xu(d:Nat){calls:List aT}{raw:List UInt8}{r:Bool}(h:jc calls raw=some r):Spec (aI aR (d+9)) 8 [(fB calls),(jl raw)] [] (mq calls raw r).1 (mq calls raw r).2:=by
 unfold jc at h
 exact bC nB AF8 h (.bd λx1 q1=>Cl [] Fo [] (Gm (d+7) q1)<|.bd λx2 q2=>Db (Gv (d+1) q2)<|.bd λx4 q4=>.ite (λhb5=>Jn [0,1,5,6,7] [none,none,none,none,none] [] [.slice none 3 0 0 true,.undef,.undef,.undef,.undef] (uW (il hb5) (lJ (d+0) q4))<|Fn Fo [] none) λhb5=>Jn [0,1,5,6,7] [none,none,none,none,none] [] [.slice none 3 0 0 true,.undef,.undef,.undef,.undef] (uW (H_ hb5) (lJ (d+0) q4))<|.bd λx103 Z8=>.ite (λUF=>Lp [none,none,none,none,none,none,none] [none,Fo] [.undef,.undef,.undef,.undef,.slice none 3 0 0 true,.undef,.undef] (uW (il UF) (lM (d+1) Z8))<|Fn Fo [] none) λUF=>Lp [none,none,none,none,none,none,none] [none,Fo] [.undef,.undef,.undef,.undef,.slice none 3 0 0 true,.undef,.undef] (uW (H_ UF) (lM (d+1) Z8))<|Fn Fo [] none)
theorem MQ(l:List (List UInt8))(i:Nat)(hi:i<l.length):(l.take (i+1)).flatten.length=(l.take i).flatten.length+l[i].length:=by
 rw[aH hi,List.flatten_append,List.flatten_cons,List.flatten_nil,List.append_nil,aF]
theorem PO(l:List (List UInt8))(i:Nat):(l.take i).flatten.length≤l.flatten.length:=by
 have:l=l.take i++l.drop i:=(List.take_append_drop i l).symm
 conv=>rhs;rw[this]
 rw[List.flatten_append,aF]
 omega
theorem CY(l:List (List UInt8))(h:l.length<1000000000)(h2:l.flatten.length<1000000000):dO l=some l.flatten:=by
 unfold dO
 have e1:iF l (0,0)=some (l.flatten.length:Int):=by
  refine iY (λi=>(((l.take i).flatten.length:Int),(i:Int))) l.length _ (λi hi=>?_) ?_ (by omega)
  ·have:=MQ l i hi
   have:=PO l (i+1)
   unfold bS
   simp only
   rw[bX (by omega),cond_true,eP hi,ak,bB (by omega) (by omega),bM (by omega),cond_false,bB (by omega) (by omega)]
   simp only[h_,this]
   congr 3
   omega
  ·unfold bS
   simp only
   rw[bM (by omega),cond_false,List.take_length]
 have e2:iG l (0,[])=some l.flatten:=by
  refine iY (λi=>((i:Int),(l.take i).flatten)) l.length _ (λi hi=>?_) ?_ (by omega)
  ·have h3:=MQ l i hi
   have h4:=PO l (i+1)
   have h5:(l.take (i+1)).flatten=(l.take i).flatten++l[i]:=by
    rw[aH hi,List.flatten_append,List.flatten_cons,List.flatten_nil,List.append_nil]
   unfold bT
   simp only
   rw[bX (by omega),cond_true,eP hi,ak,←h5,bP (by omega),bB (by omega) (by omega),h_]
  ·unfold bT
   simp only
   rw[bM (by omega),cond_false,List.take_length]
 rw[e1,ak,zM (by unfold XW;exact bX ⟨by omega,by omega,by omega,by omega⟩),e2,ak]
theorem MR (n:List Int) (s10:Int×List UInt8):∀(k x:Nat) (s:List UInt8),x<9223372036854775808→(qE x).length≤k→s.length+k<1000000000000 →
  ∃(y:Nat) (s':List UInt8),(∀j,k≤j→dw (fP n s10) j ((x:Int),s)=some ((y:Int),s'))∧y<128∧s'++[UInt8.ofNat y]=s++qE x∧s'.length+1≤s.length+k
 | 0,x,s,_,h,_=>by have:=Gb x;omega
 | k+1,x,s,hx,h,hs=>by
  by_cases c:x<128
  ·refine⟨x,s,λj hj=>?_,c,by rw[wM c],by omega⟩
   obtain⟨j,rfl⟩:∃i,j=i+1:=⟨j-1,by omega⟩
   have e:fP n s10 ((x:Int),s)=some (.inr ((x:Int),s)):=by
    unfold fP
    rw[bM (by simp only;omega),cond_false]
   simp only[dw,e]
  ·have hl:(qE (x/128)).length≤k:=by rw[Cg c]at h;simpa using h
   obtain⟨y,s',h1,h2,h3,h4⟩:=MR n s10 k (x/128) (s++[UInt8.ofNat (x%128+128)]) (by omega) hl (by simp;omega)
   refine⟨y,s',λj hj=>?_,h2,by rw[h3,JA x c],by simp at h4;omega⟩
   obtain⟨j,rfl⟩:∃i,j=i+1:=⟨j-1,by omega⟩
   have e:fP n s10 ((x:Int),s)=some (.inl (((x/128:Nat):Int),s++[UInt8.ofNat (x%128+128)])):=by
    unfold fP
    rw[bX (by simp only;omega),cond_true]
    simp only[Te hx,aaq]
    rw[bP (by simp;omega)]
   simp only[dw,e]
   exact h1 j (by omega)
theorem QY(b:List UInt8)(l:List Int)(h:b.length+10*l.length<1000000000):zl b l=some (Jw b l):=by
 unfold zl
 rw[bP (by omega)]
 have key:∃e,zi l (0,b)=some e∧e=(if l.all zW then .inr (b++encI l)else .inl ()):=by
  refine jy (λ(s:Int×List UInt8)=>l.length-s.1.toNat) (λ(s:Int×List UInt8)=>∃i:Nat,s.1=(i:Int)∧i≤l.length∧(∀x∈l.take i,zW x=true)∧s.2=b++encI (l.take i)) _ ?_ KK (0,b) ⟨0,rfl,by omega,by simp,by simp[encI]⟩ (by have:=qD;simp only;omega)
  rintro⟨j,s⟩ ⟨i,rfl,h1,h2,rfl⟩
  have hle:=Kt _ h2
  rw[aJ]at hle
  simp only[mh]
  by_cases hi:i<l.length
  ·rw[bX (by omega),cond_true,eP hi,ak]
   by_cases hx:zW l[i]=true
   ·left
    have hx':=hx
    simp only[zW,decide_eq_true_eq]at hx'
    have e0:∀s,kT l[i] s l=some (.inr ()):=λs=>by
     unfold kT
     rw[bM (by omega),cond_false,bM (by omega),cond_false]
    obtain⟨x,hxe⟩:∃x:Nat,l[i]=x:=⟨l[i].toNat,by omega⟩
    have h9:=Ch (x:=x) (by omega)
    obtain⟨y,s',q1,q2,q3,q4⟩:=MR l ((i:Int),b++encI (l.take i)) 9 x (b++encI (l.take i)) (by omega) h9 (by simp;omega)
    have q1':=q1 KK (by decide)
    rw[e0,ak,hxe]
    simp only[qw,cond_false,zh,q1',ak]
    have q5:s'++[pY (y:Int)]=b++encI (l.take (i+1)):=by
     rw[Cn (by omega),q3,aH hi,Jy,hxe]
     simp
    rw[bP (by simp at q4 ⊢;omega),q5]
    refine⟨_,rfl,⟨i+1,by rw[bB (by omega) (by omega)];simp,by omega, ?_,rfl⟩,by rw[bB (by omega) (by omega)];omega⟩
    rw[aH hi]
    intro y hy
    rcases List.mem_append.1 hy with hy | hy
    ·exact h2 y hy
    ·rw[List.mem_singleton.1 hy];exact hx
   ·right
    rw[if_neg (by simp[Ml l hi (by simpa using hx)])]
    have e0:kT l[i] ((i:Int),b++encI (l.take i)) l=some (.inl ()):=by
     unfold kT
     simp only[zW,decide_eq_true_eq]at hx
     by_cases c:l[i]<0
     ·rw[bX c,cond_true]
     ·rw[bM c,cond_false,bX (by omega),cond_true]
    rw[e0,ak]
    exact⟨_,rfl,rfl⟩
  ·right
   rw[bM (by omega),cond_false]
   rw[List.take_of_length_le (by omega)]at h2 ⊢
   rw[if_pos (List.all_eq_true.2 h2)]
   exact⟨_,rfl,rfl⟩
 obtain⟨e,e1,e2⟩:=key
 rw[e1,ak,e2]
 unfold Jw
 split<;>rfl
theorem QZ(x8:List UInt8)(parts:List (List UInt8))(s7:Int×Int)(h:x8.length<1000000000000)(a:Int):yY x8 parts s7 (a,0)=some (NI a x8):=by
 refine iY (λi=>(NI a (x8.take i),(i:Int))) x8.length _ (λi hi=>?_) ?_ h
 ·unfold kg
  simp only
  rw[bX (by omega),cond_true,eP hi,ak,bB (by omega) (by omega),Cb (x:=(x8[i].toNat:Int)) (by omega) (by have:=(x8[i]).toNat_lt;omega),aH hi]
  simp only[NI,List.foldl_append,List.foldl_cons,List.foldl_nil,Ck,h_]
 ·unfold kg
  simp only
  rw[bM (by omega),cond_false,List.take_length]
theorem Q0(parts:List (List UInt8))(h:parts.length<1000000000000)(h2:∀s∈parts,s.length<1000000000000):y5 parts=some (sumOf parts):=by
 unfold y5
 have:yZ parts (14695981039346656037,0)=some (sumOf parts):=by
  refine iY (λi=>(NJ 14695981039346656037 (parts.take i),(i:Int))) parts.length _ (λi hi=>?_) ?_ h
  ·unfold kr
   simp only
   have hs:=h2 parts[i] (List.getElem_mem _)
   rw[bX (by omega),cond_true,eP hi,ak,zM (bX (by omega)),QZ _ _ _ hs,ak,bB (by omega) (by omega),aH hi]
   simp only[NJ,List.foldl_append,List.foldl_cons,List.foldl_nil,Ck,h_]
  ·unfold kr
   simp only
   rw[bM (by omega),cond_false,List.take_length]
   rfl
 rw[this,ak]
theorem Z9(h k:Nat)(hk:k<8)(hh:h<18446744073709551616):(SV .u64 (h:Int) (IntKind.i64.wrap (8*IntKind.i64.wrap (7-(k:Int))))).bind (λx=>some (pY x))=some (UInt8.ofNat (h/256 ^ (7-k)%256)):=by
 rw[bB (x:=7-(k:Int)) (by omega) (by omega),bB (by omega) (by omega)]
 unfold SV
 rw[if_neg (by omega),ak,VA]
 have e1:min (8*(7-(k:Int))).toNat (IntKind.bits .u64)=8*(7-k):=by
  show min (8*(7-(k:Int))).toNat 64=8*(7-k)
  omega
 have e2:(2:Int) ^ (8*(7-k))=((256 ^ (7-k):Nat):Int):=by
  rw[Int.pow_mul]
  norm_cast
 rw[e1,e2,Int.fdiv_eq_ediv_of_nonneg _ (Int.natCast_nonneg _)]
 congr 1
theorem Hl(s:List UInt8)(h:s.length<1000000000000):sj s=some (DR s):=by
 unfold sj
 rw[Q0 [s] (by simp) (by simpa using h),ak]
 have hr:=Es [s]
 obtain⟨v,hv⟩:∃v:Nat,sumOf [s]=v:=⟨(sumOf [s]).toNat,by omega⟩
 have:wR (sumOf [s]) (0,[])=some (DR s):=by
  unfold DR
  rw[hv,gG]
  refine iY (λi=>((i:Int),(e8 v).take i)) 8 _ (λi hi=>?_) ?_ (by omega)
  ·have h8:=Z9 v i hi (by omega)
   obtain⟨y,hy,hy2⟩:=aA.1 h8
   have hl:i<(e8 v).length:=by rw[DN];exact hi
   unfold jC
   simp only
   rw[bX (by omega),cond_true,hy,ak,bP (by simp;omega),bB (by omega) (by omega),aH hl,aj hy2]
   simp only[h_,e8,List.getElem_map,List.getElem_range]
  ·unfold jC
   simp only
   rw[bM (by omega),cond_false,List.take_of_length_le (by rw[DN];omega)]
 rw[this,ak]
theorem JM(l:List (List UInt8))(i:Nat):(gP (l.take i)).length≤(gP l).length:=by
 have:l=l.take i++l.drop i:=(List.take_append_drop i l).symm
 conv=>rhs;rw[this]
 rw[Ta,aF]
 omega
theorem KS:∀(l:List (List UInt8)),9*l.length≤(gP l).length
 | []=>by simp[gP]
 | z::l=>by
  have:=KS l
  have:=Gb z.length
  rw[Ju,aF,Cm,aY]
  omega
theorem lay_plain(b:List UInt8)(l:List (List UInt8))(h:b.length+(gP l).length<100000000):su b l=some (b++gP l):=by
 have hl:=KS l
 unfold su
 rw[bP (by omega)]
 have:wU l (b,0)=some (b++gP l):=by
  have e0:(b,(0:Int))=(b++gP (l.take 0),((0:Nat):Int)):=by simp[gP]
  rw[e0]
  refine iY (λi=>(b++gP (l.take i),(i:Int))) l.length _ (λi hi=>?_) ?_ (by omega)
  ·have h1:=JM l (i+1)
   have h2:gP (l.take (i+1))=gP (l.take i)++Gf l[i]:=by rw[aH hi,Jv]
   have h3:=Cm l[i]
   have h4:(gP (l.take (i+1))).length=(gP (l.take i)).length+(Gf l[i]).length:=by rw[h2,aF]
   unfold jD
   simp only
   rw[bX (by omega),cond_true,eP hi,ak,QY _ _ (by simp;omega),ak,Hl _ (by omega),ak,Jz _ (by omega)]
   have h5:[b++gP (l.take i)++qE l[i].length,DR l[i],l[i]].flatten=b++gP (l.take (i+1)):=by
    rw[h2]
    simp[Gf]
   rw[CY _ (by simp) (by rw[h5,aF];omega),ak,h5,bB (by omega) (by omega),h_]
  ·unfold jD
   simp only
   rw[bM (by omega),cond_false,List.take_length]
 rw[this,ak]
theorem MS(a b:List UInt8)(h:a.length<1000000000000):fC a b=some (decide (a=b)):=by
 unfold fC
 by_cases hl:a.length=b.length
 case neg =>
  rw[Ga (by omega),cond_true,decide_eq_false (λe=>hl (by rw[e]))]
 rw[xI (by omega),cond_false]
 have key:∃x,iM a b 0=some x∧qw x = !decide (a=b):=by
  refine jy (λs:Int=>a.length-s.toNat) (λs=>∃i:Nat,s=(i:Int)∧i≤a.length∧a.take i=b.take i) (λx=>qw x = !decide (a=b)) ?_ KK 0 ⟨0,rfl,by omega,by simp⟩ (by have:=qD;simp;omega)
  rintro s ⟨i,rfl,h1,h2⟩
  simp only[dL]
  by_cases hi:i<a.length
  ·have hb:i<b.length:=by omega
   rw[bX (by omega),cond_true,eP hi,ak,eP hb,ak]
   by_cases hc:a[i]=b[i]
   ·left
    rw[xI (by rw[hc]),cond_false,bB (by omega) (by omega)]
    refine⟨_,rfl,⟨i+1,by omega,by omega, ?_⟩,by omega⟩
    rw[aH hi,aH hb,h2,hc]
   ·right
    rw[Ga (λe=>hc (UInt8.toNat_inj.1 (by omega))),cond_true]
    refine⟨_,rfl, ?_⟩
    have:a≠b:=λe=>hc (by subst e;rfl)
    simp[qw,this]
  ·right
   rw[bM (by omega),cond_false]
   refine⟨_,rfl, ?_⟩
   have:a=b:=by
    rw[List.take_of_length_le (by omega),List.take_of_length_le (by omega)]at h2
    exact h2
   simp[qw,this]
 obtain⟨x,e1,e2⟩:=key
 rw[e1,ak,e2]
 cases decide (a=b)<;>rfl
theorem OE(c:UInt8):qb c=some (decide (c.toNat<128)):=by
 unfold qb
 rw[Qr]
def atI:Option Nat→Int
 | some i=>i
 | none=>-1
theorem MU(b:List UInt8)(h:b.length<1000000000000):dQ b=some (atI (bV b)):=by
 unfold dQ
 have key:∃x,fV b 0=some x∧(match bV b with
   | some i=>x=.inl (i:Int)
   | none=>x=.inr ()):=by
  refine jy (λs:Int=>b.length-s.toNat) (λs=>∃i:Nat,s=(i:Int)∧i≤b.length∧∀j (h:j<i) (h':j<b.length),¬(b[j]).toNat<128) _ ?_ KK 0 ⟨0,rfl,by omega,λj h=>by omega⟩ (by have:=qD;simp;omega)
  rintro s ⟨i,rfl,h1,h2⟩
  simp only[bY]
  by_cases hi:i<b.length
  ·rw[bX (by omega),cond_true,eP hi,ak,OE,ak]
   by_cases hc:(b[i]).toNat<128
   ·right
    refine⟨.inl (i:Int),by rw[decide_eq_true hc,cond_true], ?_⟩
    rw[p8 b i h1 h2,List.drop_eq_getElem_cons hi,bV,if_pos hc]
    simp
   ·left
    rw[bM hc,cond_false,bB (by omega) (by omega)]
    refine⟨_,rfl,⟨i+1,by omega,by omega,λj hj hj'=>?_⟩,by omega⟩
    rcases Nat.lt_or_ge j i with q | q
    ·exact h2 j q hj'
    ·have:j=i:=by omega
     subst this
     exact hc
  ·right
   refine⟨.inr (),by rw[bM (by omega),cond_false], ?_⟩
   rw[p8 b i h1 h2,List.drop_of_length_le (by omega)]
   simp[bV]
 obtain⟨x,e1,e2⟩:=key
 rw[e1,ak]
 cases he:bV b with
 | some i =>
  rw[he]at e2
  simp only at e2
  subst e2
  rfl
 | none =>
  rw[he]at e2
  simp only at e2
  subst e2
  rfl
theorem KT(b:List UInt8)(i:Nat)(hi:i<b.length)(h9:i<9):rF b (i:Int) (0,(i:Int))=some ((valOf (b.take (i+1)):Nat):Int):=by
 have key:∃x,rF b (i:Int) (0,(i:Int))=some x∧x=((valOf (b.take (i+1)):Nat):Int):=by
  refine jy (λs:Int×Int=>(s.2+1).toNat) (λs=>∃k:Nat,k≤i+1∧s.2=(k:Int)-1∧s.1=((valOf ((b.take (i+1)).drop k):Nat):Int)) _ ?_ KK (0,(i:Int)) ⟨i+1,by omega,by simp,by rw[List.drop_of_length_le (by simp;omega)];simp[valOf]⟩ (by have:=qD;simp only;omega)
  rintro⟨v,j⟩ ⟨k,h1,h2,h3⟩
  simp only at h2 h3
  subst h2 h3
  simp only[kR]
  cases k with
  | zero =>
   right
   exact⟨_,by rw[bM (by omega),cond_false],by simp⟩
  | succ k =>
   left
   have hk:k<b.length:=by omega
   have e:((k+1:Nat):Int)-1=(k:Int):=by omega
   rw[e,bX (by omega),cond_true,eP hk,ak]
   have hl:((b.take (i+1)).drop (k+1)).length≤8:=by simp;omega
   have hv:=Ci ((b.take (i+1)).drop (k+1))
   have hv8:valOf ((b.take (i+1)).drop (k+1))<72057594037927936:=Nat.lt_of_lt_of_le hv (by
    have:=Nat.pow_le_pow_right (n:=128) (by omega) hl
    simpa using this)
   have hd:(b.take (i+1)).drop k=b[k]::(b.take (i+1)).drop (k+1):=by
    rw[List.drop_eq_getElem_cons (by simp;omega)]
    simp
   refine⟨_,rfl,⟨k,by omega, ?_, ?_⟩, ?_⟩
   ·simp only
    rw[bB (by omega) (by omega)]
   ·simp only
    rw[Tg,bB (by omega) (by omega),YF _ _ hv8 (by omega),hd]
    rfl
   ·simp only
    rw[bB (by omega) (by omega)]
    omega
 obtain⟨x,e1,e2⟩:=key
 rw[e1,e2]
theorem OG(b:List UInt8)(h:b.length<1000000000000):vG b=some (dV b):=by
 unfold vG dV
 rw[MU b h,ak]
 cases he:bV b with
 | none=>rfl
 | some i =>
  have hi:=zO he
  show _=some (jA b i)
  unfold jA
  have ea:atI (some i)=(i:Int):=rfl
  rw[ea,bM (by omega),cond_false]
  have j0:nR (i:Int) b=some (if 9≤i∨(0<i∧b[i]?=some 0)then .inl ()else .inr ()):=by
   unfold nR
   by_cases h9:9≤i
   ·rw[bX (by omega),cond_true,if_pos (.inl h9)]
   ·rw[bM (by omega),cond_false]
    by_cases h0:0<i
    ·rw[bX (by omega),cond_true,Mf,aS hi,ak]
     by_cases hz:b[i]=0
     ·rw[if_pos (.inr ⟨h0,by rw[hz]⟩),hz]
      rfl
     ·rw [if_neg (by
       rintro(q |⟨_,q⟩)
       ·omega
       ·exact hz (aj q))]
      rw[yO (by
       intro e
       exact hz (UInt8.toNat_inj.1 (by simp;omega))),cond_false]
    ·rw [bM (by omega),cond_false,if_neg (by
      rintro(q |⟨q,_⟩)<;>omega)]
  rw[j0,ak]
  by_cases hc:9≤i∨(0<i∧b[i]?=some 0)
  ·rw[if_pos hc,if_pos hc]
   rfl
  ·rw[if_neg hc,if_neg hc]
   simp only[qw,cond_false]
   have h9:i<9:=by
    rcases Nat.lt_or_ge i 9 with q | q
    ·exact q
    ·exact absurd (.inl q) hc
   rw[KT b i hi h9,ak]
   unfold rG
   rw[bM (by omega),cond_false]
   by_cases hv:4611686018427387903<valOf (b.take (i+1))
   ·rw[bX (by omega),cond_true,if_pos hv]
    rfl
   ·rw[bM (by omega),cond_false,if_neg hv,ak]
    simp only[qw,cond_false]
    rw[bB (by omega) (by omega)]
    rfl
theorem OH(b:List UInt8)(h:b.length<1000000000000):vH b=some (lT b):=by
 unfold vH lT
 rw[OG b h,ak]
 have hle:=Qq b
 generalize dV b=t at *
 obtain⟨v,k,e⟩:=t
 simp only at hle ⊢
 by_cases he:e=0
 ·subst he
  simp only[bne_self_eq_false,cond_false,if_true]
  obtain⟨n,rfl⟩:∃n:Nat,k=n:=⟨k.toNat,by omega⟩
  rw[Ce b n (by omega),ak]
  unfold Cu
  rw[bP (by simp;omega),ak]
  simp
 ·rw[Ga he,cond_true,if_neg he]
theorem aa0(n:Nat):(if (9:Int)<(n:Int)then (9:Int)else (n:Int))=((min 9 n:Nat):Int):=by
 by_cases h:9<n
 ·rw[if_pos (by omega),Nat.min_eq_left (by omega)];rfl
 ·rw[if_neg (by omega),Nat.min_eq_right (by omega)]
def OI(b:List UInt8):List UInt8×Int×Bool:=match oneOf b with
 | some (r,n)=>(r,(n:Int),true)
 | none=>([],0,false)
theorem Q5(b:List UInt8)(h:b.length<1000000000):vI b=some (OI b):=by
 unfold vI
 have e9:yL b 0 (if (9:Int)<(b.length:Int)then 9 else (b.length:Int))=some (b.take 9):=by
  rw[aa0,wJ b _ (by omega)]
  congr 1
  rcases Nat.lt_or_ge 9 b.length with q | q
  ·rw[Nat.min_eq_left (by omega)]
  ·rw[Nat.min_eq_right q,List.take_length,List.take_of_length_le q]
 rw[e9,ak,OH _ (by simp;omega),ak,ak]
 have h9:=Mh b
 have bad:∀e:Int,(dV b).2.2≠0→e≠0→((dR (0,[],e) b (b.take 9)).bind λ(x4:Unit⊕Unit)=>cond (qw x4) (some (([],0,false):List UInt8×Int×Bool)) none)=some (OI b):=λe h1 h2=>by
  unfold dR
  rw[Ga h2,cond_true,ak]
  unfold OI oneOf
  rw[if_neg (λq=>h1 q.1)]
  rfl
 have done:∀ {x:Int×List UInt8×Int} {K:Option (List UInt8×Int×Bool)},dR x b (b.take 9)=some (.inl ())→oneOf b=none→((dR x b (b.take 9)).bind λ(x4:Unit⊕Unit)=>cond (qw x4) (some (([],0,false):List UInt8×Int×Bool)) K)=some (OI b):=λh1 h2=>by
  rw[h1,ak]
  unfold OI
  rw[h2]
  rfl
 rcases Kq (b.take 9)with e | e |⟨v,k,e,e2,hv,hk1,hk9,hkl⟩
 ·have hb:(dV b).2.2≠0:=by
   intro q
   have hx:(dV (b.take 9)).2.2=3:=by
    unfold lT at e
    split at e
    rename_i heq
    rw[heq]
    split at e
    ·injection e with _ e;injection e with _ e;cases e
    ·injection e with _ e;injection e with _ e
   rcases h9 with q2 | q2
   ·rw[q2,q]at hx;cases hx
   ·exact q2.2 q
  refine done ?_ (by unfold oneOf;rw[if_neg (λq=>hb q.1)])
  rw[e];unfold dR;rw[Ga (by decide),cond_true]
 ·have hb:(dV b).2.2≠0:=by
   intro q
   have hx:(dV (b.take 9)).2.2=2:=by
    unfold lT at e
    split at e
    rename_i heq
    rw[heq]
    split at e
    ·injection e with _ e;injection e with _ e;cases e
    ·injection e with _ e;injection e with _ e
   rcases h9 with q2 | q2
   ·rw[q2,q]at hx;cases hx
   ·exact q2.2 q
  refine done ?_ (by unfold oneOf;rw[if_neg (λq=>hb q.1)])
  rw[e];unfold dR;rw[Ga (by decide),cond_true]
 ·have ht:dV b=((v:Int),(k:Int),0):=by
   rcases h9 with q | q
   ·rw[←q,e2]
   ·rw[e2]at q;exact absurd rfl q.1
  have hV:Kr b=v:=by unfold Kr;rw[ht];simp
  have hK:Mj b=k:=by unfold Mj;rw[ht];simp
  rw[aJ]at hkl
  rw[e]
  have w0:IntKind.i64.wrap (((b.take 9).length:Int)-(((b.take 9).drop k).length:Int))=(k:Int):=by
   rw[aO,aJ,bB (by omega) (by omega)]
   omega
  have w1:IntKind.i64.wrap ((k:Int)+8)=((k+8:Nat):Int):=by rw[bB (by omega) (by omega)];omega
  have w2:IntKind.i64.wrap (((k+8:Nat):Int)+(v:Int))=((k+8+v:Nat):Int):=by rw[bB (by omega) (by omega)];omega
  have w3:IntKind.i64.wrap (((k+8:Nat):Int)-8)=(k:Int):=by rw[bB (by omega) (by omega)];omega
  simp only[w0,w1,w2,w3]
  by_cases c1:v≤4000
  case neg =>
   refine done ?_ (by unfold oneOf;rw[if_neg (λq=>c1 (by have:=q.2.1;rw[hV]at this;exact this))])
   unfold dR
   simp only
   rw[xI rfl,cond_false,bX (by omega),cond_true]
  by_cases c2:k+8+v≤b.length
  case neg =>
   refine done ?_ (by unfold oneOf;rw[if_neg (λq=>c2 (by have:=q.2.2.1;rw[hV,hK]at this;exact this))])
   unfold dR
   simp only[w0,w1,w2]
   rw[xI rfl,cond_false,bM (by omega),cond_false,bX (by omega),cond_true]
  have e0:dR ((v:Int),(b.take 9).drop k,0) b (b.take 9)=some (.inr ()):=by
   unfold dR
   simp only[w0,w1,w2]
   rw[xI rfl,cond_false,bM (by omega),cond_false,bM (by omega),cond_false]
  rw[e0,ak]
  simp only[qw,cond_false]
  have hZ:(b.drop (k+8)).take (k+8+v-(k+8))=AZ b:=by unfold AZ;rw[hK,hV,Nat.add_sub_cancel_left]
  have hZl:(AZ b).length≤4000:=by unfold AZ;rw[aJ,hV];omega
  rw[Cc b _ _ (by omega) c2,ak,hZ,Hl _ (by omega),ak,Cc b _ _ (by omega) (by omega),ak,Nat.add_sub_cancel_left,MS _ _ (by rw[Gd];omega),ak]
  unfold OI oneOf
  rw[hV,hK,ht]
  by_cases c3:DR (AZ b)=(b.drop k).take 8
  ·rw[bX c3,if_pos ⟨rfl,c1,c2,c3⟩]
   simp only[Bool.not_true,cond_false]
   rw[bP (by omega)]
  ·rw[bM c3,if_neg (λq=>c3 q.2.2.2)]
   rfl
theorem JN(b:List UInt8)(h:b.length<1000000000):∀(k u:Nat) (p:List (List UInt8)),b.length-u<k→u≤b.length→p.length≤u→dw (gF b) k ((u:Int),p)=some (((u+(gu (b.drop u)).2:Nat):Int),p++(gu (b.drop u)).1)
 | 0,u,p,hk,_,_=>by omega
 | k+1,u,p,hk,hu,hp=>by
  have e:gF b ((u:Int),p)=match oneOf (b.drop u)with
    | some (r,n)=>some (.inl (((u+n:Nat):Int),p++[r]))
    | none=>some (.inr ((u:Int),p)):=by
   unfold gF
   simp only
   rw[Ce b u hu,ak,Q5 _ (by rw[aO];omega),ak]
   unfold OI
   cases ho:oneOf (b.drop u)with
   | none=>rfl
   | some q =>
    obtain⟨r,n⟩:=q
    have hq:=vD ho
    rw[aO]at hq
    simp only[Bool.not_true,cond_false]
    rw[zN (by simp;omega),bB (by omega) (by omega)]
    rfl
  cases ho:oneOf (b.drop u)with
  | none =>
   rw[ho]at e
   simp only[dw,e]
   rw[A8 ho]
   simp
  | some q =>
   obtain⟨r,n⟩:=q
   have hq:=vD ho
   rw[aO]at hq
   rw[ho]at e
   simp only[dw,e]
   rw[JN b h k (u+n) (p++[r]) (by omega) (by omega) (by simp;omega),A9 ho,List.drop_drop]
   simp only[bG,List.cons_append,List.nil_append,Nat.add_assoc]
theorem Ho(b:List UInt8)(h:b.length<1000000000):mP b=some ((gu b).1,((gu b).2:Int)):=by
 unfold mP
 have:=JN b h KK 0 [] (by have:=qD;omega) (by omega) (by simp)
 simp only[List.drop_zero,Nat.zero_add,List.nil_append]at this
 have e:uQ b (0,[])=some (((gu b).2:Int),(gu b).1):=this
 rw[e,ak]
theorem Q6{x:Nat}(h:x<9223372036854775808):pY (IntKind.i64.wrap (128+Int.tmod (x:Int) 128))=UInt8.ofNat (x%128+128):=by
 rw[Int.tmod_eq_emod_of_nonneg (by omega),bB (by omega) (by omega)]
 have:(128:Int)+(x:Int)%128=((x%128+128:Nat):Int):=by omega
 rw[this,Cn (by omega)]
theorem Q7{x:Nat}(h:x<9223372036854775808):IntKind.i64.wrap (Int.tdiv (x:Int) 128)=((x/128:Nat):Int):=by
 rw[Int.tdiv_eq_ediv_of_nonneg (by omega),bB (by omega) (by omega)]
 omega
theorem Q8(x:Int):GZ x=some (zW x):=by
 unfold GZ zW
 by_cases h:0≤x
 ·rw[bX (by omega),cond_true]
  congr 1
  rw[decide_eq_decide]
  omega
 ·rw[bM (by omega),cond_false,bM (by omega)]
theorem JO (n:List Int) (s10:Int×List UInt8):∀(k x:Nat) (s:List UInt8),x<9223372036854775808→(qE x).length≤k→s.length+k<1000000000000 →
  ∃(y:Nat) (s':List UInt8),(∀j,k≤j→dw (fQ n s10) j ((x:Int),s)=some ((y:Int),s'))∧y<128∧s'++[UInt8.ofNat y]=s++qE x∧s'.length+1≤s.length+k
 | 0,x,s,_,h,_=>by have:=Gb x;omega
 | k+1,x,s,hx,h,hs=>by
  by_cases c:x<128
  ·refine⟨x,s,λj hj=>?_,c,by rw[wM c],by omega⟩
   obtain⟨j,rfl⟩:∃i,j=i+1:=⟨j-1,by omega⟩
   have e:fQ n s10 ((x:Int),s)=some (.inr ((x:Int),s)):=by
    unfold fQ
    rw[bM (by simp only;omega),cond_false]
   simp only[dw,e]
  ·have hl:(qE (x/128)).length≤k:=by rw[Cg c]at h;simpa using h
   obtain⟨y,s',h1,h2,h3,h4⟩:=JO n s10 k (x/128) (s++[UInt8.ofNat (x%128+128)]) (by omega) hl (by simp;omega)
   refine⟨y,s',λj hj=>?_,h2,by rw[h3,JA x c],by simp at h4;omega⟩
   obtain⟨j,rfl⟩:∃i,j=i+1:=⟨j-1,by omega⟩
   have e:fQ n s10 ((x:Int),s)=some (.inl (((x/128:Nat):Int),s++[UInt8.ofNat (x%128+128)])):=by
    unfold fQ
    rw[bX (by simp only;omega),cond_true]
    simp only[Q6 hx,Q7 hx]
    rw[bP (by simp;omega)]
   simp only[dw,e]
   exact h1 j (by omega)
theorem OJ(b:List UInt8)(l:List Int)(h:b.length+10*l.length<1000000000):zx b l=some (Jw b l):=by
 unfold zx
 rw[bP (by omega)]
 have key:∃e,zw l (0,b)=some e∧e=(if l.all zW then .inr (b++encI l)else .inl ()):=by
  refine jy (λ(s:Int×List UInt8)=>l.length-s.1.toNat) (λ(s:Int×List UInt8)=>∃i:Nat,s.1=(i:Int)∧i≤l.length∧(∀x∈l.take i,zW x=true)∧s.2=b++encI (l.take i)) _ ?_ KK (0,b) ⟨0,rfl,by omega,by simp,by simp[encI]⟩ (by have:=qD;simp only;omega)
  rintro⟨j,s⟩ ⟨i,rfl,h1,h2,rfl⟩
  have hle:=Kt _ h2
  rw[aJ]at hle
  simp only[mo]
  by_cases hi:i<l.length
  ·rw[bX (by omega),cond_true,eP hi,ak,Q8,ak]
   by_cases hx:zW l[i]=true
   ·left
    have hx':=hx
    simp only[zW,decide_eq_true_eq]at hx'
    obtain⟨x,hxe⟩:∃x:Nat,l[i]=x:=⟨l[i].toNat,by omega⟩
    have h9:=Ch (x:=x) (by omega)
    obtain⟨y,s',q1,q2,q3,q4⟩:=JO l ((i:Int),b++encI (l.take i)) 9 x (b++encI (l.take i)) (by omega) h9 (by simp;omega)
    have q1':=q1 KK (by decide)
    rw[hx]
    simp only[Bool.not_true,cond_false,zu,hxe,q1',ak]
    have q5:s'++[pY (y:Int)]=b++encI (l.take (i+1)):=by
     rw[Cn (by omega),q3,aH hi,Jy,hxe]
     simp
    rw[bP (by simp at q4 ⊢;omega),q5]
    refine⟨_,rfl,⟨i+1,by rw[bB (by omega) (by omega)];simp,by omega, ?_,rfl⟩,by rw[bB (by omega) (by omega)];omega⟩
    rw[aH hi]
    intro y hy
    rcases List.mem_append.1 hy with hy | hy
    ·exact h2 y hy
    ·rw[List.mem_singleton.1 hy];exact hx
   ·right
    have hx':zW l[i]=false:=by simpa using hx
    rw[if_neg (by simp[Ml l hi hx']),hx']
    exact⟨_,rfl,rfl⟩
  ·right
   rw[bM (by omega),cond_false]
   rw[List.take_of_length_le (by omega)]at h2 ⊢
   rw[if_pos (List.all_eq_true.2 h2)]
   exact⟨_,rfl,rfl⟩
 obtain⟨e,e1,e2⟩:=key
 rw[e1,ak,e2]
 unfold Jw
 split<;>rfl
theorem Hq(h c:Int):CP h c=some (Ck h c):=rfl
theorem OL(parts:List (List UInt8))(a:Int)(i:Nat)(hi:i<parts.length)(x:Int)(h:parts[i].length<1000000000000):D5 parts (x,(i:Int)) (a,0)=some (NI a parts[i]):=by
 refine iY (λj=>(NI a (parts[i].take j),(j:Int))) parts[i].length _ (λj hj=>?_) ?_ h
 ·unfold mZ
  simp only
  rw[eP hi,ak,bX (by omega),cond_true,ak,eP hj,ak,bB (by omega) (by omega),Cb (x:=(parts[i][j].toNat:Int)) (by omega) (by have:=(parts[i][j]).toNat_lt;omega),aH hj]
  simp only[Hq,ak,NI,List.foldl_append,List.foldl_cons,List.foldl_nil,Ck,h_]
 ·unfold mZ
  simp only
  rw[eP hi,ak,bM (by omega),cond_false,List.take_length]
theorem Hr(parts:List (List UInt8))(h:parts.length<1000000000000)(h2:∀s∈parts,s.length<1000000000000):D7 parts=some (sumOf parts):=by
 unfold D7
 have:D6 parts (14695981039346656037,0)=some (sumOf parts):=by
  refine iY (λi=>(NJ 14695981039346656037 (parts.take i),(i:Int))) parts.length _ (λi hi=>?_) ?_ h
  ·unfold m_
   simp only
   have hs:=h2 parts[i] (List.getElem_mem _)
   rw[bX (by omega),cond_true,OL _ _ i hi _ hs,ak,Hq,ak,bB (by omega) (by omega),aH hi]
   simp only[NJ,List.foldl_append,List.foldl_cons,List.foldl_nil,Ck,h_]
  ·unfold m_
   simp only
   rw[bM (by omega),cond_false,List.take_length]
   rfl
 rw[this,ak]
theorem MV(h:Nat)(hh:h<18446744073709551616):sZ (h:Int)=some (e8 h):=by
 unfold sZ
 rw[zM (by decide)]
 have:zn ((h:Int),7,List.replicate 8 0)=some (e8 h):=by
  have e0:((h:Int),(7:Int),List.replicate 8 (0:UInt8))=(((h/256 ^ 0:Nat):Int),(7:Int)-((0:Nat):Int),List.replicate (8-0) 0++(e8 h).drop (8-0)):=by
   rw[Nat.pow_zero,Nat.div_one,List.drop_of_length_le (by rw[DN];omega)]
   simp
  rw[e0]
  refine iY (λt=>(((h/256 ^ t:Nat):Int),(7:Int)-(t:Int),List.replicate (8-t) 0++(e8 h).drop (8-t))) 8 _ (λt ht=>?_) ?_ (by omega)
  ·unfold ku
   simp only
   have e1:(7:Int)-(t:Int)=((7-t:Nat):Int):=by omega
   have hl:7-t<(e8 h).length:=by rw[DN];omega
   have e2:(e8 h)[7-t]=UInt8.ofNat (h/256 ^ t%256):=by
    simp only[e8,List.getElem_map,List.getElem_range]
    rw[show 7-(7-t)=t from by omega]
   have hle:h/256 ^ t≤h:=Nat.div_le_self _ _
   have e4:IntKind.u64.wrap (Int.tdiv ((h/256 ^ t:Nat):Int) 256)=((h/256 ^ (t+1):Nat):Int):=by
    rw[Nat.pow_succ,←Nat.div_div_eq_div_mul]
    generalize h/256 ^ t=q at *
    rw[Int.tdiv_eq_ediv_of_nonneg (by omega),Cb (by omega) (by omega)]
    omega
   have e3:pY (Int.tmod ((h/256 ^ t:Nat):Int) 256)=UInt8.ofNat (h/256 ^ t%256):=by
    generalize h/256 ^ t=q at *
    rw[Int.tmod_eq_emod_of_nonneg (by omega),show((q:Int)%256)=((q%256:Nat):Int)from by omega,Cn (by omega)]
   have e5:(List.replicate (8-t) (0:UInt8)++(e8 h).drop (8-t)).set (7-t) (UInt8.ofNat (h/256 ^ t%256))=List.replicate (8-(t+1)) 0++(e8 h).drop (8-(t+1)):=by
    have a1:8-(t+1)=7-t:=by omega
    have a2:8-t=(7-t)+1:=by omega
    rw[a1,List.drop_eq_getElem_cons hl,e2,a2,List.replicate_succ',bG,List.set_append_right _ _ (by simp)]
    simp
   rw[bX (by omega),cond_true,e1,eP (by simp[DN];omega),ak,e3,e4,gG,e5,bB (by omega) (by omega)]
   congr 4
   omega
  ·unfold ku
   simp only
   rw[bM (by omega),cond_false]
   simp
 rw[this,ak]
theorem EC(s:List UInt8):sZ (sumOf [s])=some (DR s):=by
 have hr:=Es [s]
 obtain⟨v,hv⟩:∃v:Nat,sumOf [s]=v:=⟨(sumOf [s]).toNat,by omega⟩
 unfold DR
 rw[hv,MV v (by omega),gG]
theorem CZ(b:List UInt8)(l:List (List UInt8))(h:b.length+(gP l).length<100000000):vN b l=some (b++gP l):=by
 have hl:=KS l
 unfold vN
 rw[bP (by omega)]
 have:zy l (0,b)=some (b++gP l):=by
  have e0:((0:Int),b)=(((0:Nat):Int),b++gP (l.take 0)):=by simp[gP]
  rw[e0]
  refine iY (λi=>((i:Int),b++gP (l.take i))) l.length _ (λi hi=>?_) ?_ (by omega)
  ·have h1:=JM l (i+1)
   have h2:gP (l.take (i+1))=gP (l.take i)++Gf l[i]:=by rw[aH hi,Jv]
   have h3:=Cm l[i]
   have h4:(gP (l.take (i+1))).length=(gP (l.take i)).length+(Gf l[i]).length:=by rw[h2,aF]
   have h8:=Gd l[i]
   unfold kC
   simp only
   rw[bX (by omega),cond_true,eP hi,ak,OJ _ _ (by simp;omega),ak,ak,Hr _ (by simp) (by simp;omega),ak,EC,ak,Jz _ (by omega)]
   have h5:b++gP (l.take i)++qE l[i].length++DR l[i]++l[i]=b++gP (l.take (i+1)):=by
    rw[h2]
    simp[Gf]
   rw[bP (by simp;omega),ak,h5,bP (by rw[aF];omega),bB (by omega) (by omega),h_]
  ·unfold kC
   simp only
   rw[bM (by omega),cond_false,List.take_length]
 rw[this,ak]
def Aw(b:List UInt8)(i:Nat):Int:=match bV (b.drop i)with
 | some _=>2
 | none=>3
theorem OM(b:List UInt8)(i:Nat)(hi:i≤b.length)(h:b.length<1000000000000):CF b (i:Int)=some (Aw b i):=by
 unfold CF
 have key:∃x,Ba b (i:Int)=some x∧(cond (qw x) (some 2) (some 3):Option Int)=some (Aw b i):=by
  refine jy (λs:Int=>b.length-s.toNat) (λs=>∃j:Nat,s=(j:Int)∧j≤b.length∧Aw b i=Aw b j) _ ?_ KK (i:Int) ⟨i,rfl,hi,rfl⟩ (by have:=qD;simp;omega)
  rintro s ⟨j,rfl,h1,h2⟩
  simp only[nY]
  by_cases hj:j<b.length
  ·have hd:b.drop j=b[j]::b.drop (j+1):=List.drop_eq_getElem_cons hj
   rw[bX (by omega),cond_true,eP hj,ak]
   by_cases hc:(b[j]).toNat<128
   ·right
    rw[bX (by omega),cond_true]
    refine⟨_,rfl, ?_⟩
    rw[h2]
    unfold Aw
    rw[hd,bV,if_pos hc]
    rfl
   ·left
    rw[bM (by omega),cond_false,bB (by omega) (by omega)]
    refine⟨_,rfl,⟨j+1,by omega,by omega, ?_⟩,by omega⟩
    rw[h2]
    unfold Aw
    rw[hd,bV,if_neg hc]
    cases bV (b.drop (j+1))<;>rfl
  ·right
   rw[bM (by omega),cond_false]
   refine⟨_,rfl, ?_⟩
   rw[h2]
   unfold Aw
   rw[List.drop_of_length_le (by omega),bV]
   rfl
 obtain⟨x,e1,e2⟩:=key
 rw[e1,ak,e2]
theorem pG{b:List UInt8}{e:Int}(h:dV b=(0,0,e))(he:e≠0):lT b=(0,[],e):=by
 unfold lT
 rw[h]
 simp[he]
theorem Xu (b:List UInt8) (i:Nat) (hi:i≤b.length) (hs:∀j (h:j<i) (h':j<b.length),¬(b[j]).toNat<128)
  (hb:∀j,bV b=some j→9≤j∨4611686018427387903<valOf (b.take (j+1))):lT b=(0,[],Aw b i):=by
 have e:=p8 b i hi hs
 unfold Aw
 cases hd:bV (b.drop i)with
 | none =>
  rw[hd]at e
  refine pG (e:=3) ?_ (by decide)
  unfold dV
  rw[e]
  rfl
 | some k =>
  rw[hd]at e
  refine pG (e:=2) ?_ (by decide)
  have:=hb _ e
  unfold dV
  rw[e]
  show jA b (k+i)=(0,0,2)
  unfold jA
  split
  ·rfl
  ·rename_i q
   rcases this with w | w
   ·exact absurd (.inl w) q
   ·rw[if_pos w]
theorem PS{b:List UInt8}(h:8<b.length):valOf (b.take 9)=valOf (b.take 8)+72057594037927936*((b[8]).toNat%128)∧valOf (b.take 8)<72057594037927936:=by
 have e:b.take 9=b.take 8++[b[8]]:=aH h
 have hl:(b.take 8).length=8:=by rw[aJ];omega
 have:=Ci (b.take 8)
 rw[hl]at this
 refine⟨?_,this⟩
 rw[e,DL,hl]
 simp[valOf]
theorem Q9(m i:Nat)(hm:m<128)(hi:i≤8)(h8:i=8→m<64):SS .i64 (m:Int) (IntKind.u64.wrap (IntKind.i64.wrap (7*(i:Int))))=some ((m*128 ^ i:Nat):Int):=by
 rw[bB (by omega) (by omega),Cb (by omega) (by omega)]
 unfold SS
 rw[if_neg (by omega)]
 have e1:min (7*(i:Int)).toNat (IntKind.bits .i64)=7*i:=by
  show min (7*(i:Int)).toNat 64=7*i
  omega
 have e2:(m:Int)*2 ^ (7*i)=((m*128 ^ i:Nat):Int):=by
  rw[Int.pow_mul]
  norm_cast
 have e3:m*128 ^ i<9223372036854775808:=by
  rcases Nat.lt_or_ge i 8 with q | q
  ·have:=Nat.pow_le_pow_right (n:=128) (by omega) (show i≤7 by omega)
   have h2:=Nat.mul_le_mul (show m≤127 by omega) this
   exact Nat.lt_of_le_of_lt h2 (by decide)
  ·obtain rfl:i=8:=by omega
   have:=h8 rfl
   rw[show(128:Nat) ^ 8=72057594037927936 from by decide]
   omega
 rw[e1,e2,bB (by omega) (by omega)]
theorem MW(b:List UInt8)(h:b.length<1000000000):CO b=some (lT b):=by
 unfold CO
 have key:∃x,Bc b (0,0)=some x∧(cond (qw x) (some ((zV x).1,(zV x).2.2,(zV x).2.1)) (some (0,[],3)))=some (lT b):=by
  refine jy (λ(s:Int×Int)=>b.length-s.2.toNat) (λ(s:Int×Int)=>∃i:Nat,s.2=(i:Int)∧i≤b.length∧i≤9∧(∀j (h:j<i) (h':j<b.length),¬(b[j]).toNat<128)∧s.1=((valOf (b.take i):Nat):Int)) _ ?_ KK (0,0) ⟨0,rfl,by omega,by omega,λj h=>by omega,by simp[valOf]⟩ (by have:=qD;simp only;omega)
  rintro⟨v,i'⟩ ⟨i,rfl,h1,h9,hs,rfl⟩
  simp only[nZ]
  by_cases hi:i<b.length
  case neg =>
   right
   rw[bM (by omega),cond_false]
   refine⟨_,rfl, ?_⟩
   have:i=b.length:=by omega
   subst this
   have en:bV b=none:=by
    rw[p8 b _ (Nat.le_refl _) hs,List.drop_length]
    rfl
   rw[pG (e:=3) (by unfold dV;rw[en]) (by decide)]
   rfl
  rw[bX (by omega),cond_true,eP hi,ak]
  generalize hc:b[i]=c
  have hc2:=c.toNat_lt
  have w0:IntKind.i64.wrap (c.toNat:Int)=(c.toNat:Int):=bB (by omega) (by omega)
  have m0:Int.tmod (c.toNat:Int) 128=((c.toNat%128:Nat):Int):=by rw[Int.tmod_eq_emod_of_nonneg (by omega)];omega
  have hd:b.drop i=c::b.drop (i+1):=by rw[List.drop_eq_getElem_cons hi,hc]
  by_cases late:i=9∨(i=8∧64≤c.toNat%128)
  ·right
   have j0:mR (((valOf (b.take i):Nat):Int),(i:Int)) c b=some true:=by
    unfold mR
    simp only[w0,m0]
    rcases late with q |⟨q,q2⟩
    ·rw[yN (by omega),cond_true]
    ·rw[yO (by omega),cond_false,yN (by omega),cond_true,bX (by omega)]
   have j1:mU (((valOf (b.take i):Nat):Int),(i:Int)) c b=some (.inl (Aw b i)):=by
    unfold mU
    rw[j0,ak,cond_true]
    simp only
    rw[OM b i (by omega) (by omega),ak]
   rw[j1,ak]
   refine⟨_,rfl, ?_⟩
   simp only[qw,zV,cond_true]
   rw[Xu b i (by omega) hs λj hj=>?_]
   rcases Nat.lt_or_ge j 9 with q | q
   ·right
    have hji:i≤j:=by
     rcases Nat.lt_or_ge j i with w | w
     ·obtain⟨_,u1,u2⟩:=yP hj
      exact absurd u2 (hs j w u1)
     ·exact w
    rcases late with w |⟨w,w2⟩
    ·omega
    ·subst w
     obtain rfl:j=8:=by omega
     have:=PS hi
     rw[hc]at this
     show 4611686018427387903<valOf (b.take 9)
     omega
   ·exact .inl q
  ·have hi8:i≤8:=by omega
   have h64:i=8→c.toNat%128<64:=by omega
   have j0:mR (((valOf (b.take i):Nat):Int),(i:Int)) c b=some false:=by
    unfold mR
    simp only[w0,m0]
    rw[yO (by omega),cond_false]
    by_cases q:i=8
    ·rw[yN (by omega),cond_true,bM (by omega)]
    ·rw[yO (by omega),cond_false]
   have j1:mU (((valOf (b.take i):Nat):Int),(i:Int)) c b=some (.inr ()):=by
    unfold mU
    rw[j0,ak,cond_false]
   rw[j1,ak]
   simp only[qw,cond_false,w0,m0]
   rw[Q9 _ i (by omega) hi8 h64,ak]
   have tk:b.take (i+1)=b.take i++[c]:=by rw[aH hi,hc]
   have hl:(b.take i).length=i:=by rw[aJ];omega
   have ev:valOf (b.take (i+1))=valOf (b.take i)+c.toNat%128*128 ^ i:=by
    rw[tk,DL,hl]
    simp[valOf,Nat.mul_comm]
   have hv:valOf (b.take (i+1))≤4611686018427387903:=by
    rcases Nat.lt_or_ge i 8 with q | q
    ·have a1:=Ci (b.take (i+1))
     have a2:(b.take (i+1)).length≤8:=by rw[aJ];omega
     have a3:=Nat.pow_le_pow_right (n:=128) (by omega) a2
     have a4:(128:Nat) ^ 8=72057594037927936:=by decide
     omega
    ·obtain rfl:i=8:=by omega
     have:=PS hi
     rw[hc]at this
     show valOf (b.take 9)≤_
     omega
   have ew:IntKind.i64.wrap (((valOf (b.take i):Nat):Int)+((c.toNat%128*128 ^ i:Nat):Int))=((valOf (b.take (i+1)):Nat):Int):=by
    rw[ev]at hv ⊢
    rw[bB (by omega) (by omega)]
    omega
   rw[ew]
   by_cases hc8:c.toNat<128
   ·right
    have en:bV b=some i:=by
     rw[p8 b i h1 hs,hd,bV,if_pos hc8]
     simp
    rw[bM (by omega),cond_false]
    have ei:b[i]?=some c:=by rw[aS hi,hc]
    by_cases z:c=0∧0<i
    ·have j2:mV c (((valOf (b.take i):Nat):Int),(i:Int)) b ((c.toNat%128*128 ^ i:Nat):Int)=some (.inl ()):=by
      unfold mV
      simp only[w0]
      rw[yN (by rw[z.1];rfl),cond_true,bX (by omega),cond_true]
     rw[j2,ak]
     refine⟨_,rfl, ?_⟩
     rw[pG (e:=2) (by
      unfold dV
      rw[en]
      show jA b i=_
      unfold jA
      rw[if_pos (.inr ⟨z.2,by rw[ei,z.1]⟩)]) (by decide)]
     rfl
    ·have j2:mV c (((valOf (b.take i):Nat):Int),(i:Int)) b ((c.toNat%128*128 ^ i:Nat):Int)=some (.inr ()):=by
      unfold mV
      simp only[w0]
      by_cases q:c=0
      ·rw [yN (by rw[q];rfl),cond_true,bM (by
        intro w
        exact z ⟨q,by omega⟩),cond_false]
      ·rw[yO (λw=>q (UInt8.toNat_inj.1 (by simp;omega))),cond_false]
     rw[j2,ak]
     simp only[qw,cond_false]
     rw[bB (by omega) (by omega),h_,Ce b (i+1) (by omega),ak,bP (by simp;omega)]
     refine⟨_,rfl, ?_⟩
     simp only[qw,zV,cond_true]
     have:dV b=(((valOf (b.take (i+1)):Nat):Int),((i+1:Nat):Int),0):=by
      unfold dV
      rw[en]
      show jA b i=_
      unfold jA
      rw[if_neg (by
       rintro(q |⟨q1,q2⟩)
       ·omega
       ·rw[ei]at q2
        exact z ⟨aj q2,q1⟩),if_neg (by omega)]
     unfold lT
     rw[this]
     simp
   ·left
    rw[bX (by omega),cond_true,bB (by omega) (by omega)]
    refine⟨_,rfl,⟨i+1,by omega,by omega,by omega,λj hj hj'=>?_,rfl⟩,by simp only;omega⟩
    rcases Nat.lt_or_ge j i with q | q
    ·exact hs j q hj'
    ·obtain rfl:j=i:=by omega
     rw[hc]
     exact hc8
 obtain⟨x,e1,e2⟩:=key
 rw[e1,ak,e2]
theorem Ht(b:List UInt8)(h:b.length<1000000000):∀(k u:Nat) (p:List (List UInt8)),b.length-u<k→u≤b.length→p.length≤u→dw (iI b) k ((u:Int),p)=some (((u+(gu (b.drop u)).2:Nat):Int),p++(gu (b.drop u)).1)
 | 0,u,p,hk,_,_=>by omega
 | k+1,u,p,hk,hu,hp=>by
  have e:iI b ((u:Int),p)=match oneOf (b.drop u)with
    | some (r,n)=>some (.inl (((u+n:Nat):Int),p++[r]))
    | none=>some (.inr ((u:Int),p)):=by
   unfold iI
   simp only
   have hul:(b.drop u).length=b.length-u:=aO
   rw[Ce b u hu,ak,MW _ (by rw[hul];omega),ak]
   generalize hx:b.drop u=x at *
   have bad:∀t,(t.2.2:Int)≠0→gT t b ((u:Int),p) x=some (.inl ()):=λt ht=>by
    unfold gT jU
    rw[Ga ht,cond_true,ak,cond_true]
   rcases Cj x with q | q |⟨v,n,q,hv,hn1,hn9,hnl⟩
   ·rw[pG q (by decide),bad _ (by decide),ak]
    unfold oneOf
    rw[q,if_neg (by rintro⟨w,_⟩;cases w)]
    rfl
   ·rw[pG q (by decide),bad _ (by decide),ak]
    unfold oneOf
    rw[q,if_neg (by rintro⟨w,_⟩;cases w)]
    rfl
   ·have ht:lT x=((v:Int),x.drop n,0):=by unfold lT;rw[q];simp
    have hV:Kr x=v:=by unfold Kr;rw[q];simp
    have hK:Mj x=n:=by unfold Mj;rw[q];simp
    rw[ht]
    unfold oneOf
    rw[hV,hK,q]
    have w1:IntKind.i64.wrap (8+(v:Int))=((8+v:Nat):Int):=by rw[bB (by omega) (by omega)];omega
    by_cases c1:v≤4000
    case neg =>
     rw[if_neg (λw=>c1 w.2.1)]
     unfold gT jU
     simp only
     rw[xI rfl,cond_false,bX (by omega),cond_true,ak,cond_true]
     rfl
    by_cases c2:n+8+v≤x.length
    case neg =>
     rw[if_neg (λw=>c2 w.2.2.1)]
     unfold gT jU
     simp only[w1]
     rw[xI rfl,cond_false,bM (by omega),cond_false,bX (by rw[aO];omega),ak,cond_true]
     rfl
    have j1:gT ((v:Int),x.drop n,0) b ((u:Int),p) x=some (.inr ()):=by
     unfold gT jU
     simp only[w1]
     rw[xI rfl,cond_false,bM (by omega),cond_false,bM (by rw[aO];omega),ak,cond_false]
    rw[j1,ak]
    simp only[qw,cond_false,w1]
    have s1:yL (x.drop n) 8 ((8+v:Nat):Int)=some (AZ x):=by
     have:=Cc (x.drop n) 8 (8+v) (by omega) (by rw[aO];omega)
     rw[List.drop_drop,Nat.add_sub_cancel_left]at this
     unfold AZ
     rw[hK,hV]
     exact this
    have s2:yL (x.drop n) 0 8=some ((x.drop n).take 8):=wJ (x.drop n) 8 (by rw[aO];omega)
    have hZl:(AZ x).length≤4000:=by unfold AZ;rw[aJ,hV];omega
    rw[s1,ak,bP (by omega),Hr _ (by simp) (by simp;omega),ak,EC,ak,s2,ak]
    by_cases c3:DR (AZ x)=(x.drop n).take 8
    ·rw[if_pos ⟨by simp,c1,c2,c3⟩,c3]
     simp only[beq_self_eq_true,Bool.not_true,cond_false]
     rw[zN (by simp;omega)]
     have w5:IntKind.i64.wrap (IntKind.i64.wrap (IntKind.i64.wrap (IntKind.i64.wrap ((u:Int)+(x.length:Int))-((x.drop n).length:Int))+8)+(v:Int))=((u+(n+8+v):Nat):Int):=by
      rw[aO,bB (x:=(u:Int)+(x.length:Int)) (by omega) (by omega),bB (x:=(u:Int)+(x.length:Int)-_) (by omega) (by omega),bB (x:=(u:Int)+(x.length:Int)-_+8) (by omega) (by omega),bB (by omega) (by omega)]
      omega
     rw[w5]
    ·rw[if_neg (λw=>c3 w.2.2.2)]
     have:((x.drop n).take 8==DR (AZ x))=false:=by
      rw[beq_eq_false_iff_ne]
      exact λw=>c3 w.symm
     rw[this]
     rfl
  cases ho:oneOf (b.drop u)with
  | none =>
   rw[ho]at e
   simp only[dw,e]
   rw[A8 ho]
   simp
  | some q =>
   obtain⟨r,n⟩:=q
   have hq:=vD ho
   rw[aO]at hq
   rw[ho]at e
   simp only[dw,e]
   rw[Ht b h k (u+n) (p++[r]) (by omega) (by omega) (by simp;omega),A9 ho,List.drop_drop]
   simp only[bG,List.cons_append,List.nil_append,Nat.add_assoc]
theorem zB(b:List UInt8)(h:b.length<1000000000):pF b=some ((gu b).1,((gu b).2:Int)):=by
 unfold pF
 have:=Ht b h KK 0 [] (by have:=qD;omega) (by omega) (by simp)
 simp only[List.drop_zero,Nat.zero_add,List.nil_append]at this
 have e:w9 b (0,[])=some (((gu b).2:Int),(gu b).1):=this
 rw[e,ak]
theorem Q_(b:List UInt8)(n:Nat)(h:b.length<1000000000):wX b (n:Int)=some (b.take n):=by
 unfold wX
 by_cases c:n<b.length
 ·rw[bX (by omega),cond_true,wJ b n (by omega),ak,bP (by simp;omega)]
 ·rw[bM (by omega),cond_false,bP (by omega),List.take_of_length_le (by omega)]
theorem C8(n:Int)(m:Nat)(hm:0<m)(hm2:m<1000000000000):∃k:Nat,mH n (m:Int)=some (k:Int)∧k<m:=by
 have h1:=Int.emod_nonneg n (by omega:(m:Int)≠0)
 have h2:=Int.emod_lt_of_pos n (by omega:(0:Int)<(m:Int))
 refine⟨(n%(m:Int)).toNat, ?_,by omega⟩
 rw[Int.toNat_of_nonneg h1]
 unfold mH Vt
 rw[if_neg (by omega),ak]
 have e1:=Int.tmod_add_mul_tdiv n m
 by_cases h:0≤n.tmod m
 ·rw[bM (by omega),cond_false]
  congr 1
  have e2:n.tmod m<m:=Int.tmod_lt_of_pos n (by omega)
  have e3:n%m=(n.tmod m)%m:=by
   conv=>lhs;rw[←e1]
   rw[Int.add_mul_emod_self_left]
  rw[e3,Int.emod_eq_of_lt h e2]
 ·have e2:-(m:Int)<n.tmod m:=Int.lt_tmod_of_pos n (by omega)
  rw[bX (by omega),cond_true,bB (by omega) (by omega)]
  congr 1
  have e3:n%m=(n.tmod m+m)%m:=by
   conv=>lhs;rw[←e1]
   rw[Int.add_mul_emod_self_left,Int.add_emod_right]
  rw[e3,Int.emod_eq_of_lt (by omega) (by omega)]
theorem Z_(b:List UInt8):wX b 60=some (b.take 60):=by
 unfold wX
 by_cases c:60<b.length
 ·rw[bX (by omega),cond_true,show(60:Int)=((60:Nat):Int)from rfl,wJ b 60 (by omega),ak,bP (by simp;omega)]
 ·rw[bM (by omega),cond_false,bP (by omega),List.take_of_length_le (by omega)]
def C9(l:List (List UInt8)):List (List UInt8):=(l.take 5).map (·.take 60)
theorem MX(l:List (List UInt8)):lD l=some (C9 l):=by
 unfold lD
 have:lV l (0,[])=some (C9 l):=by
  refine iY (λi=>((i:Int),(l.take i).map (·.take 60))) (min 5 l.length) _ (λi hi=>?_) ?_ (by omega)
  ·have h1:i<l.length:=by omega
   unfold eu gK
   simp only
   rw[bX (by omega),cond_true,bX (by omega),cond_true,ak]
   simp only[qw,cond_true]
   rw[eP h1,ak,Z_,ak,zN (by simp;omega),bB (by omega) (by omega),aH h1,List.map_append,h_]
   rfl
  ·unfold eu gK C9
   simp only
   rcases Nat.lt_or_ge 5 l.length with q | q
   ·rw[Nat.min_eq_left (by omega),bX (by omega),cond_true,bM (by omega),cond_false]
    rfl
   ·rw[Nat.min_eq_right q,bM (by omega),cond_false,List.take_length,List.take_of_length_le q]
    rfl
 rw[this,ak]
theorem Hu(l:List (List UInt8)):(C9 l).length≤5∧∀z∈C9 l,z.length≤60:=by
 unfold C9
 refine⟨by simp;omega,λz hz=>?_⟩
 obtain⟨y,_,rfl⟩:=List.mem_map.1 hz
 simp
 omega
theorem Bh(m:Nat)(hm:m≤4000):∀(l:List (List UInt8)),(∀z∈l,z.length≤m)→(gP l).length≤(m+17)*l.length
 | [],_=>by simp[gP]
 | z::l,h=>by
  have h1:=Bh m hm l λy hy=>h y (by simp[hy])
  have h2:=h z (by simp)
  have h3:=Ch (x:=z.length) (by omega)
  rw[Ju,aF,Cm,aY,Nat.mul_succ]
  omega
theorem Ra(l:List (List UInt8)):(gP (C9 l)).length≤385:=by
 have:=Bh 60 (by omega) _ (Hu l).2
 have:=(Hu l).1
 omega
theorem Hw(l:List (List UInt8))(h:l.length<1000000000000):qc l=some (l.any λz=>decide (4000<z.length)):=by
 have key:∃x,dx l=some x∧decide (x≥0)=(l.any λz=>decide (4000<z.length)):=by
  unfold dx
  have key:∃x,fG l 0=some x∧∃y,(cond (qw x) (some (zV x)) (some (-1)))=some y∧decide (y≥0)=(l.any λz=>decide (4000<z.length)):=by
   refine jy (λs:Int=>l.length-s.toNat) (λs=>∃i:Nat,s=(i:Int)∧i≤l.length∧∀z∈l.take i,¬ 4000<z.length) _ ?_ KK 0 ⟨0,rfl,by omega,by simp⟩ (by have:=qD;simp;omega)
   rintro s ⟨i,rfl,h1,h2⟩
   simp only[bR,wT]
   by_cases hi:i<l.length
   ·rw[bX (by omega),cond_true,eP hi,ak,ak]
    by_cases hc:4000<l[i].length
    ·right
     rw[bX (by omega),cond_true]
     refine⟨_,rfl,(i:Int),rfl, ?_⟩
     rw[bX (by omega)]
     exact(List.any_eq_true.2 ⟨_,List.getElem_mem hi,by simpa using hc⟩).symm
    ·left
     rw[bM (by omega),cond_false,bB (by omega) (by omega)]
     refine⟨_,rfl,⟨i+1,by omega,by omega, ?_⟩,by omega⟩
     rw[aH hi]
     intro z hz
     rcases List.mem_append.1 hz with hz | hz
     ·exact h2 z hz
     ·rw[List.mem_singleton.1 hz];exact hc
   ·right
    rw[bM (by omega),cond_false]
    refine⟨_,rfl,-1,rfl, ?_⟩
    rw[List.take_of_length_le (by omega)]at h2
    rw[bM (by omega)]
    symm
    rw[List.any_eq_false]
    intro z hz
    simpa using h2 z hz
  obtain⟨x,e1,y,e2,e3⟩:=key
  exact⟨y,by rw[e1,ak,e2],e3⟩
 obtain⟨x,e1,e2⟩:=key
 unfold qc dW
 rw[e1,ak,ak,e2]
theorem UG(l:List (List UInt8))(h:l.length<1000000000000)(hs:∀z∈l,z.length≤4000):qc l=some false:=by
 rw[Hw l h]
 congr 1
 rw[List.any_eq_false]
 intro z hz
 have:=hs z hz
 simp
 omega
theorem Hy(z:List UInt8)(p:Int)(b:List UInt8)(h:z.length≤65536):iq z p b=some (true,(z.length:Int),z):=by
 unfold iq
 rw[bM (by omega),cond_false,bP (by omega)]
theorem IG(l:List (List UInt8))(p:Int)(b:List UInt8)(hl:l.length<1000000)(hs:∀z∈l,z.length≤4000)(h:(gP l).length≤65536):j6 l p b=some (true,((gP l).length:Int),gP l):=by
 unfold j6
 rw[UG l (by omega) hs,ak]
 simp only[Bool.not_false,cond_true]
 rw[lay_plain _ _ (by simp;omega),ak,List.nil_append,Hy _ _ _ h,ak]
theorem OO(sy:Int)(b:List UInt8)(h:b.length≤65536):kV sy b=some (if (gu b).2<b.length then (((gu b).2:Nat):Int)else sy,b.take (gu b).2):=by
 have hr:=Gg b
 unfold kV dZ
 rw[bP (by omega),ak,Ho _ (by omega),ak]
 by_cases c:(gu b).2<b.length
 ·rw[bX (by simp only;omega),cond_true,wJ b _ (by omega),ak,Hy _ _ _ (by simp;omega),ak,if_pos c,aJ,Nat.min_eq_left (by omega)]
 ·rw[bM (by simp only;omega),cond_false,if_neg c,List.take_of_length_le (by omega)]
theorem UH:ze 0=some (0,[]):=by kernel_rfl
theorem II(p:Int)(b:List UInt8)(h:b.length<1000000000):iQ p b=some (gu b).1:=by
 unfold iQ dZ
 rw[bP (by omega),ak,Ho _ h,ak]
theorem YU:kJ=some true:=by kernel_rfl
theorem Rb:yU=some 0:=rfl
theorem OP(l:List (List UInt8))(h:l.length<1000000000):jI l l=some true:=by
 unfold jI
 rw[xI rfl,cond_false]
 have:lW l l 0=some (.inr ()):=by
  refine iY (λi=>(i:Int)) l.length _ (λi hi=>?_) ?_ (by omega)
  ·unfold eD
   rw[bX (by omega),cond_true,eP hi,ak,ak,bB (by omega) (by omega),h_]
   simp only[beq_self_eq_true,Bool.not_true,cond_false]
  ·unfold eD
   rw[bM (by omega),cond_false]
 rw[this,ak]
 rfl
def kp(keep n:Int):Int:=if (if n<keep then n else keep)>0 then (if n<keep then n else keep)else 0
theorem YV(keep:Int)(n:Nat):∃k:Nat,kp keep (n:Int)=(k:Int)∧k≤n:=by
 unfold kp
 refine⟨(if (if (n:Int)<keep then (n:Int)else keep)>0 then (if (n:Int)<keep then (n:Int)else keep)else 0).toNat, ?_, ?_⟩<;>(split<;>split at *<;>omega)
theorem YW(keep:Int)(sy k:Nat)(b:List UInt8)(h:b.length<1000000000)(hs:sy≤b.length)(hk:kp keep ((b.length-sy:Nat):Int)=(k:Int))(hk2:k≤b.length-sy):iP keep (sy:Int) b=some ((k:Int),((sy+k:Nat):Int),b.take (sy+k)):=by
 unfold iP
 have e1:IntKind.i64.wrap ((b.length:Int)-(sy:Int))=((b.length-sy:Nat):Int):=by rw[bB (by omega) (by omega)];omega
 rw[e1]
 unfold kp at hk
 rw[hk]
 have e3:IntKind.i64.wrap ((sy:Int)+(k:Int))=((sy+k:Nat):Int):=by rw[bB (by omega) (by omega)];omega
 rw[e3,wJ b _ (by omega),ak]
theorem Xv(keep:Int)(sy k:Nat)(b:List UInt8)(h:b.length<1000000000)(hs:sy≤b.length)(hk:kp keep ((b.length-sy:Nat):Int)=(k:Int))(hk2:k≤b.length-sy):j_ keep ⟨b,(sy:Int)⟩=some ((k:Int),((sy+k:Nat):Int),b.take (sy+k)):=by
 unfold j_ zR
 simp only
 have e1:IntKind.i64.wrap ((b.length:Int)-(sy:Int))=((b.length-sy:Nat):Int):=by rw[bB (by omega) (by omega)];omega
 have e2:(if (if keep<((b.length-sy:Nat):Int)then keep else ((b.length-sy:Nat):Int))>0 then (if keep<((b.length-sy:Nat):Int)then keep else ((b.length-sy:Nat):Int))else 0)=(k:Int):=by
  rw[←hk]
  unfold kp
  generalize ((b.length-sy:Nat):Int)=n
  repeat' split
  all_goals omega
 have e3:IntKind.i64.wrap ((sy:Int)+(k:Int))=((sy+k:Nat):Int):=by rw[bB (by omega) (by omega)];omega
 rw[e1,ak,e2,e3,wJ b _ (by omega),ak,bP (by simp;omega),aJ,Nat.min_eq_left (by omega)]
theorem Bj(sy:Nat)(b:List UInt8)(hs:sy≤b.length)(hb:b.length≤65536):∃(M5:Nat) (b':List UInt8),kV (sy:Int) b=some ((M5:Int),b')∧oq (sy:Int) b=some ⟨b',(M5:Int)⟩∧ow ⟨b,(sy:Int)⟩=some ⟨b',(M5:Int)⟩∧M5≤b'.length∧b'.length≤65536:=by
 have hr:=Gg b
 refine⟨if (gu b).2<b.length then (gu b).2 else sy,b.take (gu b).2, ?_, ?_, ?_, ?_, ?_⟩
 ·rw[OO _ _ hb]
  split<;>rfl
 ·unfold oq rQ
  rw[zB _ (by omega),ak]
  by_cases c:(gu b).2<b.length
  ·rw[bX (by simp only;omega),cond_true,wJ b _ (by omega),ak,bM (by simp;omega),cond_false,bP (by simp;omega),if_pos c,aJ,Nat.min_eq_left (by omega)]
   rfl
  ·rw[bM (by simp only;omega),cond_false,if_neg c,List.take_of_length_le (by omega)]
 ·unfold ow jJ
  simp only
  rw[zB _ (by omega),ak]
  by_cases c:(gu b).2<b.length
  ·rw[bX (by simp only;omega),cond_true,wJ b _ (by omega),ak,bM (by simp;omega),cond_false,bP (by simp;omega),if_pos c,aJ,Nat.min_eq_left (by omega)]
   rfl
  ·rw[bM (by simp only;omega),cond_false,if_neg c,List.take_of_length_le (by omega)]
 ·rw[aJ]
  split<;>omega
 ·rw[aJ]
  omega
def vV(l:List (List UInt8)):Bool:=l.any λz=>decide (4000<z.length)
theorem Rc{l:List (List UInt8)}(h:vV l=false):∀z∈l,z.length≤4000:=λz hz=>by
 unfold vV at h
 rw[List.any_eq_false]at h
 have:=h z hz
 simp at this
 omega
theorem Xw{l:List (List UInt8)}(h:l.length≤6):qc l=some (vV l):=Hw l (by omega)
theorem MZ{l:List (List UInt8)}(h:l.length≤6):zS l=some (vV l):=by
 unfold zS
 have key:∃x,Bd l 0=some x∧qw x=vV l:=by
  refine jy (λs:Int=>l.length-s.toNat) (λs=>∃i:Nat,s=(i:Int)∧i≤l.length∧vV l=vV (l.drop i)) _ ?_ KK 0 ⟨0,rfl,by omega,rfl⟩ (by have:=qD;simp;omega)
  rintro s ⟨i,rfl,h1,h2⟩
  simp only[n_]
  by_cases hi:i<l.length
  ·rw[bX (by omega),cond_true,eP hi,ak]
   rw[List.drop_eq_getElem_cons hi]at h2
   have h3:vV l=(decide (4000<l[i].length)||vV (l.drop (i+1))):=h2
   by_cases hc:4000<l[i].length
   ·right
    rw[bX (by omega),cond_true]
    exact⟨_,rfl,by rw[h3,bX hc];rfl⟩
   ·left
    rw[bM (by omega),cond_false,bB (by omega) (by omega)]
    exact⟨_,rfl,⟨i+1,by omega,by omega,by rw[h3,bM hc];rfl⟩,by omega⟩
  ·right
   rw[bM (by omega),cond_false]
   exact⟨_,rfl,by rw[h2,List.drop_of_length_le (by omega)];rfl⟩
 obtain⟨x,e1,e2⟩:=key
 rw[e1,ak,e2]
 cases vV l<;>rfl
theorem appG(z:List UInt8)(p:Int)(b:List UInt8)(h:b.length+z.length<1000000):ig [z] p b=some (if b.length+z.length≤65536 then (true,b++z)else (false,b)):=by
 unfold ig
 rw[CY _ (by simp) (by simp;omega),ak]
 simp only[List.flatten_cons,List.flatten_nil,List.append_nil]
 rw[bB (by omega) (by omega)]
 by_cases c:b.length+z.length≤65536
 ·rw[bM (by omega),cond_false,bP (by simp;omega),if_pos c]
 ·rw[bX (by omega),cond_true,if_neg c]
theorem X6(z:List UInt8)(p:Int)(b:List UInt8)(h:b.length+z.length<1000000):iw [z] ⟨b,p⟩=some (if b.length+z.length≤65536 then (true,⟨b++z,p⟩)else (false,⟨b,p⟩)):=by
 have e1:lX [z] ⟨b,p⟩ ((b.length:Int),0)=some ((b.length+z.length:Nat):Int):=by
  refine iY (λi=>(if i=0 then (b.length:Int)else ((b.length+z.length:Nat):Int),(i:Int))) 1 _ (λi hi=>?_) ?_ (by omega)
  ·obtain rfl:i=0:=by omega
   unfold eF
   simp only
   rw[bX (by simp),cond_true,eP (show 0 < [z].length by simp),ak]
   simp only[List.getElem_cons_zero,if_true]
   rw[bB (by omega) (by omega),bB (by omega) (by omega),if_neg (by omega)]
   rfl
  ·unfold eF
   simp only
   rw[bM (by simp),cond_false,if_neg (by omega)]
 have e2:lY [z] (0,⟨b,p⟩)=some ⟨b++z,p⟩:=by
  refine iY (λi=>((i:Int),if i=0 then (⟨b,p⟩:aQ)else ⟨b++z,p⟩)) 1 _ (λi hi=>?_) ?_ (by omega)
  ·obtain rfl:i=0:=by omega
   unfold eG
   simp only[if_true]
   rw[bX (by simp),cond_true,bP (by omega),eP (show 0 < [z].length by simp),ak]
   simp only[List.getElem_cons_zero]
   rw[bP (by rw[aF];omega),bB (by omega) (by omega),if_neg (by omega)]
   rfl
  ·unfold eG
   simp only
   rw[bM (by simp),cond_false,if_neg (by omega)]
 unfold iw
 simp only
 rw[e1,ak]
 by_cases c:b.length+z.length≤65536
 ·rw[bM (by omega),cond_false,e2,ak,if_pos c]
 ·rw[bX (by omega),cond_true,if_neg c]
theorem JQ(l:List (List UInt8))(sy:Nat)(b:List UInt8)(hl:l.length≤6)(hs:sy≤b.length)(hb:b.length≤65536):∃(ok:Bool) (b':List UInt8),jP l (sy:Int) b=some (ok,b')∧vU l ⟨b,(sy:Int)⟩=some (ok,⟨b',(sy:Int)⟩)∧sy≤b'.length∧b'.length≤65536:=by
 unfold jP vU
 rw[Xw hl,ak,MZ hl,ak]
 cases c:vV l
 case true=>exact⟨false,b,rfl,rfl,hs,hb⟩
 have hz:=Rc c
 have hbd:=Bh 4000 (by omega) l hz
 have abe:(4000+17)*l.length≤(4000+17)*6:=Nat.mul_le_mul_left _ hl
 simp only[Bool.not_false,cond_true]
 rw[lay_plain _ _ (by simp;omega),ak,List.nil_append,CZ _ _ (by simp;omega),ak,List.nil_append,appG _ _ _ (by omega),ak,X6 _ _ _ (by omega),ak]
 by_cases q:b.length+(gP l).length≤65536
 ·rw[if_pos q,if_pos q]
  exact⟨true,b++gP l,rfl,rfl,by rw[aF];omega,by rw[aF];omega⟩
 ·rw[if_neg q,if_neg q]
  exact⟨false,b,rfl,rfl,hs,hb⟩
theorem YX(l:List (List UInt8)):jV l=some (C9 l):=MX l
theorem aac (x:aT) (i:Int) (sy:Nat) (b:List UInt8) (l:List (List UInt8)) (raw:List UInt8) (calls:List aT) (hs:sy≤b.length) (hb:b.length≤65536) (hl:l.length≤5) (hz:∀z∈l,z.length≤60) (he:(gP l).length≤385) (hr:raw.length<1000000000) :
  ∃(M5:Nat) (b':List UInt8),eX x (i,(sy:Int),⟨b,(sy:Int)⟩,b) l raw calls=some (.inr ((M5:Int),⟨b',(M5:Int)⟩,b'))∧M5≤b'.length∧b'.length≤65536:=by
 obtain⟨k,hk,hk2⟩:=C8 x.What 9 (by omega) (by omega)
 obtain⟨n,hn,hn2⟩:=C8 x.N 120 (by omega) (by omega)
 obtain⟨n4,hn4,abf⟩:=C8 x.N 4 (by omega) (by omega)
 obtain⟨n3,hn3,hn32⟩:=C8 x.N 3 (by omega) (by omega)
 have hk:mH x.What 9=some (k:Int):=hk
 have hn:mH x.N 120=some (n:Int):=hn
 have hn4:mH x.N 4=some (n4:Int):=hn4
 have hn3:mH x.N 3=some (n3:Int):=hn3
 unfold eX
 rw[hk,ak]
 by_cases k0:k=0
 ·rw[yN (show(k:Int)=0 by omega),cond_true]
  unfold kU ou
  simp only[ak]
  rw[xI rfl,cond_false]
  exact⟨b.length,b,rfl,Nat.le_refl _,hb⟩
 rw[yO (show(k:Int)≠0 by omega),cond_false]
 by_cases k1:k=1
 ·rw[yN (show(k:Int)=1 by omega),cond_true,hn,ak]
  generalize IntKind.i64.wrap ((n:Int)-2)=keep
  obtain⟨j,hj,hj2⟩:=YV keep (b.length-sy)
  simp only
  rw[YW keep sy j b (by omega) hs hj hj2,ak,Xv keep sy j b (by omega) hs hj hj2,ak,xI rfl,cond_false]
  obtain⟨M5,b',e1,e2,_,e4,e5⟩:=Bj (sy+j) (b.take (sy+j)) (by rw[aJ];omega) (by rw[aJ];omega)
  simp only
  rw[e1,ak,e2,ak]
  exact⟨M5,b',rfl,e4,e5⟩
 rw[yO (show(k:Int)≠1 by omega),cond_false]
 by_cases k2:k=2
 ·rw[yN (show(k:Int)=2 by omega),cond_true]
  have hz4:∀z∈l,z.length≤4000:=λz h=>by have:=hz z h;omega
  have hlong:vV l=false:=by
   unfold vV
   rw[List.any_eq_false]
   intro z h
   have:=hz z h
   simp
   omega
  simp only
  rw[IG l _ _ (by omega) hz4 (by omega),ak]
  unfold rR jJ
  rw[MZ (by omega),ak,hlong]
  simp only[Bool.not_false,cond_true]
  rw[CZ _ _ (by simp;omega),ak,List.nil_append,bM (by omega),cond_false,bP (by omega),ak,ak]
  exact⟨(gP l).length,gP l,rfl,Nat.le_refl _,by omega⟩
 rw[yO (show(k:Int)≠2 by omega),cond_false]
 by_cases k3:k=3
 ·rw[yN (show(k:Int)=3 by omega),cond_true,show(40:Int)=((40:Nat):Int)from rfl,Q_ raw 40 hr,ak]
  have h40:(raw.take 40).length≤40:=by rw[aJ];omega
  simp only
  rw[appG _ _ _ (by omega),ak,X6 _ _ _ (by omega),ak]
  by_cases q:b.length+(raw.take 40).length≤65536
  ·rw[if_pos q,if_pos q]
   simp only[beq_self_eq_true,Bool.not_true,cond_false]
   obtain⟨M5,b',e1,_,e3,e4,e5⟩:=Bj sy (b++raw.take 40) (by rw[aF];omega) (by rw[aF];omega)
   rw[e1,ak,e3,ak]
   exact⟨M5,b',rfl,e4,e5⟩
  ·rw[if_neg q,if_neg q]
   simp only[beq_self_eq_true,Bool.not_true,cond_false]
   obtain⟨M5,b',e1,_,e3,e4,e5⟩:=Bj sy b hs hb
   rw[e1,ak,e3,ak]
   exact⟨M5,b',rfl,e4,e5⟩
 rw[yO (show(k:Int)≠3 by omega),cond_false]
 by_cases k4:k=4
 ·rw[yN (show(k:Int)=4 by omega),cond_true,hn4,ak,zM (by unfold PI;rw[bB (by omega) (by omega)];exact decide_eq_true (by omega)),zN (by rw[aF,List.length_singleton];omega),hn3,ak]
  by_cases c3:n3=0
  ·rw[yN (show(n3:Int)=0 by omega),cond_true]
   generalize (List.replicate (IntKind.i64.wrap (3999+(n4:Int))).toNat ((0:UInt8):UInt8))=z
   obtain⟨ok,b',e1,e2,e3,e4⟩:=JQ (l++[z]) sy b (by rw[aF,List.length_singleton];omega) hs hb
   simp only
   rw[e1,ak,e2,ak]
   simp only[beq_self_eq_true,Bool.not_true,cond_false]
   exact⟨sy,b',rfl,e3,e4⟩
  ·rw[yO (show(n3:Int)≠0 by omega),cond_false]
   exact⟨sy,b,rfl,hs,hb⟩
 rw[yO (show(k:Int)≠4 by omega),cond_false]
 obtain⟨ok,b',e1,e2,e3,e4⟩:=JQ l sy b (by omega) hs hb
 simp only
 rw[e1,ak,e2,ak]
 simp only[beq_self_eq_true,Bool.not_true,cond_false]
 exact⟨sy,b',rfl,e3,e4⟩
theorem tV(x0:List aT)(x1:List UInt8)(o0:(ZE sN) x0)(o1:(ZE okT) x1)(hb:(XY iE) x0+(XY bk1) x1≤1048576):jc x0 x1=some true:=by
 have h0:x0.length≤1048576:=by have:=PK (bk:=iE) (λx=>by unfold iE;omega) x0;omega
 have h1:x1.length≤1048576:=by have:=PK (bk:=bk1) (λx=>by unfold bk1;omega) x1;omega
 unfold jc
 have j0:eU x0 x1 (0,[])=some (.inr ()):=by
  unfold eU
  rw[YU]
  rfl
 rw[Rb,ak,UH,ak,j0,ak]
 simp only[qw,cond_false]
 have loop:∃e,jM x0 x1 (0,0,⟨[],0⟩,[])=some e∧e=.inr ():=by
  refine jy (λ(s:Int×Int×aQ×List UInt8)=>x0.length-s.1.toNat) (λs=>∃(i sy:Nat) (b:List UInt8),s=((i:Int),(sy:Int),⟨b,(sy:Int)⟩,b)∧i≤x0.length∧sy≤b.length∧b.length≤65536) _ ?_ KK _ ⟨0,0,[],rfl,by omega,by simp,by simp⟩ (by have:=qD;simp only;omega)
  rintro s ⟨i,sy,b,rfl,g1,g2,g3⟩
  simp only[dU]
  by_cases c:i<x0.length
  case neg =>
   right
   rw[bM (by omega),cond_false]
   exact⟨_,rfl,rfl⟩
  left
  rw[bX (by omega),cond_true,eP c,ak,YX,ak]
  have hl:=Hu x0[i].Parts
  obtain⟨M5,b',e1,e2,e3⟩:=aac x0[i] i sy b (C9 x0[i].Parts) x1 x0 g2 g3 hl.1 hl.2 (Ra _) (by omega)
  have hr:=Gg b'
  rw[e1,ak]
  simp only[qw,qC,cond_false]
  unfold dZ lG
  rw[zB _ (by omega),ak,bP (by omega),ak]
  simp only[beq_self_eq_true,Bool.not_true,cond_false,ak]
  rw[xI rfl,cond_false,II _ _ (by omega),ak,OP _ (by omega),ak]
  simp only[Bool.not_true,cond_false]
  rw[bB (by omega) (by omega),h_]
  exact⟨_,rfl,⟨i+1,M5,b',rfl,by omega,e2,e3⟩,by simp only;omega⟩
 obtain⟨e,e1,rfl⟩:=loop
 rw[e1,ak]
 rfl
end Go.Proofs.Ytkedeiklmpkgkaa
