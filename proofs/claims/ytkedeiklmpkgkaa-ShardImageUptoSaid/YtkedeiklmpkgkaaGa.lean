import Derived.Test.YtkedeiklmpkgkaaJ5
import Derived.Test.YtkedeiklmpkgkaaProg
import Derived.Test.YtkedeiklmpkgkaaJ6
import Derived.Test.YtkedeiklmpkgkaaL1
set_option linter.all false
set_option maxRecDepth 100000
namespace Go.Proofs.Ytkedeiklmpkgkaa
noncomputable def Nf:dD:={ nargs:=4,ntmps:=110,code:=codeOf (bJ Try.prog 11 [[3,9,10,11,12,33,34],[3,9,10,11,12,45,46],[10,12,76,77,78]]),results:=[(.tmp 8)] }
theorem X3:bJ Try.prog 11 [[3,9,10,11,12,33,34],[3,9,10,11,12,45,46],[10,12,76,77,78]]=some Nf:=by kernel_rfl
theorem X4:Nf.code.cZ=true:=by kernel_rfl
noncomputable def Qs:dI:=(cL (cK (cB (cA (cB (cB (cB (cB (cB Nf.code)))))))))
theorem SK:Qs.cZ=true:=by kernel_rfl
noncomputable def Qt:dI:=(cL (cK (cB (cA (cB (cB (cB (cB (cB (cB Nf.code))))))))))
theorem SL:Qt.cZ=true:=by kernel_rfl
noncomputable def Eh:dI:=(cA (cB (cB (cB (cB (cB (cB (cB Nf.code))))))))
theorem GU:Eh.cZ=true:=by kernel_rfl
noncomputable def Qu:dI:=(cL (cK (cB (cA (cB (cB (cB (cB (cB (cB (cB (cB Nf.code))))))))))))
theorem SN:Qu.cZ=true:=by kernel_rfl
noncomputable def SQ:dD:={ nargs:=2,ntmps:=38,code:=codeOf (bJ Try.prog 13 []),results:=[(.tmp 4)] }
theorem X5:bJ Try.prog 13 []=some SQ:=by kernel_rfl
theorem X6:SQ.code.cZ=true:=by kernel_rfl
noncomputable def Ng:dI:=(cA (cB SQ.code))
theorem JR:Ng.cZ=true:=by kernel_rfl
noncomputable def SS:dD:={ nargs:=1,ntmps:=23,code:=codeOf (bJ Try.prog 14 [[3,9,10]]),results:=[(.tmp 2)] }
theorem X7:bJ Try.prog 14 [[3,9,10]]=some SS:=by kernel_rfl
theorem X8:SS.code.cZ=true:=by kernel_rfl
noncomputable def JU:dI:=(cL (cK (cB (cA (cB (cB SS.code))))))
theorem LW:JU.cZ=true:=by kernel_rfl
noncomputable def Vg:dD:={ nargs:=2,ntmps:=14,code:=codeOf (bJ Try.prog 23 []),results:=[(.tmp 4)] }
theorem X9:bJ Try.prog 23 []=some Vg:=by kernel_rfl
theorem X_:Vg.code.cZ=true:=by kernel_rfl
noncomputable def Qv:dD:={ nargs:=4,ntmps:=34,code:=codeOf (bJ Try.prog 45 []),results:=[(.cell 8 true 4)] }
theorem Ya:bJ Try.prog 45 []=some Qv:=by kernel_rfl
theorem Yb:Qv.code.cZ=true:=by kernel_rfl
noncomputable def OU:dI:=(cA (cB (cB Qv.code)))
theorem OV:OU.cZ=true:=by kernel_rfl
noncomputable def LX:dI:=(cA (cA (cB (cB Qv.code))))
theorem Nh:LX.cZ=true:=by kernel_rfl
noncomputable def Vh:dD:={ nargs:=2,ntmps:=65,code:=codeOf (bJ Try.prog 46 []),results:=[(.cell 4 true 2)] }
theorem Yc:bJ Try.prog 46 []=some Vh:=by kernel_rfl
theorem Yd:Vh.code.cZ=true:=by kernel_rfl
noncomputable def Vi:dD:={ nargs:=1,ntmps:=8,code:=codeOf (bJ Try.prog 47 []),results:=[(.tmp 2)] }
theorem Ye:bJ Try.prog 47 []=some Vi:=by kernel_rfl
theorem Yf:Vi.code.cZ=true:=by kernel_rfl
noncomputable def Vj:dD:={ nargs:=1,ntmps:=9,code:=codeOf (bJ Try.prog 48 []),results:=[(.tmp 2)] }
theorem Yg:bJ Try.prog 48 []=some Vj:=by kernel_rfl
theorem Yh:Vj.code.cZ=true:=by kernel_rfl
noncomputable def Vk:dD:={ nargs:=1,ntmps:=7,code:=codeOf (bJ Try.prog 50 []),results:=[(.tmp 2)] }
theorem Yi:bJ Try.prog 50 []=some Vk:=by kernel_rfl
theorem Yj:Vk.code.cZ=true:=by kernel_rfl
noncomputable def Vl:dD:={ nargs:=1,ntmps:=7,code:=codeOf (bJ Try.prog 51 []),results:=[(.tmp 2)] }
theorem Yk:bJ Try.prog 51 []=some Vl:=by kernel_rfl
theorem Yl:Vl.code.cZ=true:=by kernel_rfl
noncomputable def SV:dD:={ nargs:=1,ntmps:=20,code:=codeOf (bJ Try.prog 52 [[2,3,6,7,8]]),results:=[(.cell 2 true 1)] }
theorem Ym:bJ Try.prog 52 [[2,3,6,7,8]]=some SV:=by kernel_rfl
theorem Yn:SV.code.cZ=true:=by kernel_rfl
noncomputable def JV:dI:=(cL (cK (cB (cA (cB (cB SV.code))))))
theorem LY:JV.cZ=true:=by kernel_rfl
noncomputable def Qw:dD:={ nargs:=4,ntmps:=113,code:=codeOf (bJ Try.prog 54 [[2,3,8,9,10]]),results:=[(.cell 8 true 4)] }
theorem Yo:bJ Try.prog 54 [[2,3,8,9,10]]=some Qw:=by kernel_rfl
theorem Yp:Qw.code.cZ=true:=by kernel_rfl
noncomputable def Qx:dI:=(cL (cK (cB (cA (cB (cB Qw.code))))))
theorem SX:Qx.cZ=true:=by kernel_rfl
noncomputable def FU:dI:=(cA (cL (cK (cB (cA (cB (cB Qw.code)))))))
theorem Iw:FU.cZ=true:=by kernel_rfl
noncomputable def Vm:dD:={ nargs:=1,ntmps:=14,code:=codeOf (bJ Try.prog 55 []),results:=[(.cell 2 true 19)] }
theorem Yq:bJ Try.prog 55 []=some Vm:=by kernel_rfl
theorem Yr:Vm.code.cZ=true:=by kernel_rfl
noncomputable def Vn:dD:={ nargs:=1,ntmps:=20,code:=codeOf (bJ Try.prog 56 []),results:=[(.cell 2 true 4)] }
theorem Yt:bJ Try.prog 56 []=some Vn:=by kernel_rfl
theorem Yu:Vn.code.cZ=true:=by kernel_rfl
noncomputable def Vo:dD:={ nargs:=0,ntmps:=47,code:=codeOf (bJ Try.prog 57 []),results:=[(.tmp 0)] }
theorem Yv:bJ Try.prog 57 []=some Vo:=by kernel_rfl
theorem Yw:Vo.code.cZ=true:=by kernel_rfl
noncomputable def Qy:dD:={ nargs:=1,ntmps:=44,code:=codeOf (bJ Try.prog 58 []),results:=[(.tmp 2)] }
theorem Yx:bJ Try.prog 58 []=some Qy:=by kernel_rfl
theorem Yy:Qy.code.cZ=true:=by kernel_rfl
noncomputable def RQ:dI:=(cA (cB Qy.code))
theorem Qz:RQ.cZ=true:=by kernel_rfl
noncomputable def LZ:dI:=(cA (cB (cB (cB Qy.code))))
theorem Ni:LZ.cZ=true:=by kernel_rfl
noncomputable def OW:dD:={ nargs:=2,ntmps:=73,code:=codeOf (bJ Try.prog 59 [[2,3,5],[2,3,6]]),results:=[(.tmp 4)] }
theorem Yz:bJ Try.prog 59 [[2,3,5],[2,3,6]]=some OW:=by kernel_rfl
theorem YA:OW.code.cZ=true:=by kernel_rfl
noncomputable def RS:dI:=(cA (cB OW.code))
theorem QA:RS.cZ=true:=by kernel_rfl
noncomputable def QB:dI:=(cL (cK (cB (cA (cB (cB OW.code))))))
theorem SY:QB.cZ=true:=by kernel_rfl
noncomputable def QC:dI:=(cL (cK (cB (cA (cB (cB (cB OW.code)))))))
theorem S9:QC.cZ=true:=by kernel_rfl
noncomputable def Vp:dD:={ nargs:=1,ntmps:=8,code:=codeOf (bJ Try.prog 60 []),results:=[(.tmp 2)] }
theorem YB:bJ Try.prog 60 []=some Vp:=by kernel_rfl
theorem YC:Vp.code.cZ=true:=by kernel_rfl
noncomputable def Vq:dD:={ nargs:=1,ntmps:=66,code:=codeOf (bJ Try.prog 61 []),results:=[(.cell 2 true 6)] }
theorem YD:bJ Try.prog 61 []=some Vq:=by kernel_rfl
theorem YE:Vq.code.cZ=true:=by kernel_rfl
noncomputable def Ta:dD:={ nargs:=2,ntmps:=74,code:=codeOf (bJ Try.prog 62 []),results:=[(.cell 4 true 2),(.tmp 5)] }
theorem YF:bJ Try.prog 62 []=some Ta:=by kernel_rfl
theorem YG:Ta.code.cZ=true:=by kernel_rfl
noncomputable def Nj:dI:=(cA (cB Ta.code))
theorem JW:Nj.cZ=true:=by kernel_rfl
noncomputable def Td:dD:={ nargs:=1,ntmps:=35,code:=codeOf (bJ Try.prog 63 []),results:=[(.tmp 2)] }
theorem YH:bJ Try.prog 63 []=some Td:=by kernel_rfl
theorem YI:Td.code.cZ=true:=by kernel_rfl
noncomputable def JX:dI:=(cA (cK (cB (cA (cB Td.code)))))
theorem KL:JX.cZ=true:=by kernel_rfl
noncomputable def Vr:dD:={ nargs:=1,ntmps:=9,code:=codeOf (bJ Try.prog 64 []),results:=[(.tmp 2)] }
theorem YJ:bJ Try.prog 64 []=some Vr:=by kernel_rfl
theorem YK:Vr.code.cZ=true:=by kernel_rfl
noncomputable def Nk:dD:={ nargs:=1,ntmps:=53,code:=codeOf (bJ Try.prog 81 []),results:=[(.tmp 2)] }
theorem YL:bJ Try.prog 81 []=some Nk:=by kernel_rfl
theorem YM:Nk.code.cZ=true:=by kernel_rfl
noncomputable def RU:dI:=(cA (cB Nk.code))
theorem QD:RU.cZ=true:=by kernel_rfl
noncomputable def OX:dI:=(cA (cB (cB Nk.code)))
theorem OY:OX.cZ=true:=by kernel_rfl
noncomputable def JY:dI:=(cA (cK (cA (cB (cB Nk.code)))))
theorem KM:JY.cZ=true:=by kernel_rfl
noncomputable def H9:dI:=(cA (cA (cK (cA (cB (cB Nk.code))))))
theorem JZ:H9.cZ=true:=by kernel_rfl
noncomputable def Vs:dD:={ nargs:=2,ntmps:=14,code:=codeOf (bJ Try.prog 82 []),results:=[(.tmp 4),(.tmp 5)] }
theorem YN:bJ Try.prog 82 []=some Vs:=by kernel_rfl
theorem YO:Vs.code.cZ=true:=by kernel_rfl
noncomputable def Vt:dD:={ nargs:=4,ntmps:=41,code:=codeOf (bJ Try.prog 83 []),results:=[(.cell 8 true 2)] }
theorem YP:bJ Try.prog 83 []=some Vt:=by kernel_rfl
theorem YQ:Vt.code.cZ=true:=by kernel_rfl
noncomputable def Vu:dD:={ nargs:=3,ntmps:=28,code:=codeOf (bJ Try.prog 84 []),results:=[(.cell 6 true 2)] }
theorem YR:bJ Try.prog 84 []=some Vu:=by kernel_rfl
theorem YS:Vu.code.cZ=true:=by kernel_rfl
noncomputable def Vv:dD:={ nargs:=3,ntmps:=33,code:=codeOf (bJ Try.prog 85 []),results:=[(.tmp 6)] }
theorem YT:bJ Try.prog 85 []=some Vv:=by kernel_rfl
theorem YU:Vv.code.cZ=true:=by kernel_rfl
noncomputable def Vw:dD:={ nargs:=1,ntmps:=8,code:=codeOf (bJ Try.prog 86 []),results:=[(.tmp 2)] }
theorem YV:bJ Try.prog 86 []=some Vw:=by kernel_rfl
theorem YW:Vw.code.cZ=true:=by kernel_rfl
noncomputable def Vx:dD:={ nargs:=1,ntmps:=9,code:=codeOf (bJ Try.prog 87 []),results:=[(.tmp 2)] }
theorem YX:bJ Try.prog 87 []=some Vx:=by kernel_rfl
theorem YZ:Vx.code.cZ=true:=by kernel_rfl
noncomputable def Vy:dD:={ nargs:=1,ntmps:=15,code:=codeOf (bJ Try.prog 88 []),results:=[(.tmp 2)] }
theorem Y0:bJ Try.prog 88 []=some Vy:=by kernel_rfl
theorem Y1:Vy.code.cZ=true:=by kernel_rfl
noncomputable def Vz:dD:={ nargs:=2,ntmps:=54,code:=codeOf (bJ Try.prog 89 []),results:=[(.cell 4 true 2),(.tmp 5)] }
theorem Y3:bJ Try.prog 89 []=some Vz:=by kernel_rfl
theorem Y4:Vz.code.cZ=true:=by kernel_rfl
noncomputable def VA:dD:={ nargs:=1,ntmps:=26,code:=codeOf (bJ Try.prog 90 []),results:=[(.cell 2 true 4)] }
theorem Y5:bJ Try.prog 90 []=some VA:=by kernel_rfl
theorem Y6:VA.code.cZ=true:=by kernel_rfl
noncomputable def Te:dD:={ nargs:=1,ntmps:=16,code:=codeOf (bJ Try.prog 91 [[2,3,6,7,8]]),results:=[(.cell 2 true 16)] }
theorem Y7:bJ Try.prog 91 [[2,3,6,7,8]]=some Te:=by kernel_rfl
theorem Y8:Te.code.cZ=true:=by kernel_rfl
noncomputable def QE:dI:=(cL (cK (cB (cA (cB (cB Te.code))))))
theorem Tf:QE.cZ=true:=by kernel_rfl
noncomputable def VB:dD:={ nargs:=4,ntmps:=15,code:=codeOf (bJ Try.prog 92 []),results:=[(.cell 8 true 6)] }
theorem Y9:bJ Try.prog 92 []=some VB:=by kernel_rfl
theorem Y_:VB.code.cZ=true:=by kernel_rfl
noncomputable def Tg:dD:={ nargs:=2,ntmps:=26,code:=codeOf (bJ Try.prog 93 [[0,1,12,13]]),results:=[(.tmp 4)] }
theorem Za:bJ Try.prog 93 [[0,1,12,13]]=some Tg:=by kernel_rfl
theorem Zb:Tg.code.cZ=true:=by kernel_rfl
noncomputable def QF:dI:=(cL (cK (cB (cA (cB (cB Tg.code))))))
theorem Ti:QF.cZ=true:=by kernel_rfl
noncomputable def Tj:dD:={ nargs:=2,ntmps:=26,code:=codeOf (bJ Try.prog 94 [[0,1,12,13]]),results:=[(.tmp 4)] }
theorem Zc:bJ Try.prog 94 [[0,1,12,13]]=some Tj:=by kernel_rfl
theorem Zd:Tj.code.cZ=true:=by kernel_rfl
noncomputable def QG:dI:=(cL (cK (cB (cA (cB (cB Tj.code))))))
theorem Tk:QG.cZ=true:=by kernel_rfl
noncomputable def VD:dD:={ nargs:=2,ntmps:=9,code:=codeOf (bJ Try.prog 95 []),results:=[(.tmp 4)] }
theorem Ze:bJ Try.prog 95 []=some VD:=by kernel_rfl
theorem Zf:VD.code.cZ=true:=by kernel_rfl
noncomputable def VE:dD:={ nargs:=1,ntmps:=6,code:=codeOf (bJ Try.prog 96 []),results:=[(.tmp 2)] }
theorem Zg:bJ Try.prog 96 []=some VE:=by kernel_rfl
theorem Zh:VE.code.cZ=true:=by kernel_rfl
noncomputable def Tn:dD:={ nargs:=1,ntmps:=21,code:=codeOf (bJ Try.prog 97 []),results:=[(.tmp 2)] }
theorem Zi:bJ Try.prog 97 []=some Tn:=by kernel_rfl
theorem Zj:Tn.code.cZ=true:=by kernel_rfl
noncomputable def J2:dI:=(cA (cK (cB (cA (cB Tn.code)))))
theorem KN:J2.cZ=true:=by kernel_rfl
noncomputable def VF:dD:={ nargs:=2,ntmps:=13,code:=codeOf (bJ Try.prog 98 []),results:=[(.tmp 4)] }
theorem Zk:bJ Try.prog 98 []=some VF:=by kernel_rfl
theorem Zl:VF.code.cZ=true:=by kernel_rfl
noncomputable def Tp:dD:={ nargs:=2,ntmps:=29,code:=codeOf (bJ Try.prog 99 []),results:=[(.cell 4 true 4),(.tmp 5)] }
theorem Zm:bJ Try.prog 99 []=some Tp:=by kernel_rfl
theorem Zn:Tp.code.cZ=true:=by kernel_rfl
noncomputable def RV:dI:=(cA (cB Tp.code))
theorem QH:RV.cZ=true:=by kernel_rfl
noncomputable def L6:dD:={ nargs:=3,ntmps:=49,code:=codeOf (bJ Try.prog 109 [[0,1,2,8,9,10]]),results:=[(.tmp 6),(.tmp 7)] }
theorem VG:bJ Try.prog 109 [[0,1,2,8,9,10]]=some L6:=by kernel_rfl
theorem VH:L6.code.cZ=true:=by kernel_rfl
noncomputable def Nl:dI:=(cL (cK (cA (cB (cB (cB L6.code))))))
theorem QI:Nl.cZ=true:=by kernel_rfl
noncomputable def OZ:dD:={ nargs:=2,ntmps:=9,code:=codeOf (bJ Try.prog 110 []),results:=[(.tmp 4)] }
theorem VJ:bJ Try.prog 110 []=some OZ:=by kernel_rfl
theorem VK:OZ.code.cZ=true:=by kernel_rfl
noncomputable def O4:dD:={ nargs:=2,ntmps:=20,code:=codeOf (bJ Try.prog 111 []),results:=[(.tmp 4)] }
theorem VN:bJ Try.prog 111 []=some O4:=by kernel_rfl
theorem VO:O4.code.cZ=true:=by kernel_rfl
noncomputable def O5:dD:={ nargs:=3,ntmps:=22,code:=codeOf (bJ Try.prog 112 []),results:=[] }
theorem VP:bJ Try.prog 112 []=some O5:=by kernel_rfl
theorem VQ:O5.code.cZ=true:=by kernel_rfl
noncomputable def Z5:dD:={ nargs:=3,ntmps:=95,code:=codeOf (bJ Try.prog 113 []),results:=[(.tmp 6)] }
theorem VT:bJ Try.prog 113 []=some Z5:=by kernel_rfl
noncomputable def L8:dD:={ nargs:=1,ntmps:=25,code:=codeOf (bJ Try.prog 114 [[0,2,3,4]]),results:=[(.cell 2 true 1)] }
theorem VU:bJ Try.prog 114 [[0,2,3,4]]=some L8:=by kernel_rfl
theorem VW:L8.code.cZ=true:=by kernel_rfl
noncomputable def Nn:dI:=(cL (cK (cB (cA (cB (cB L8.code))))))
theorem QJ:Nn.cZ=true:=by kernel_rfl
noncomputable def L9:dD:={ nargs:=1,ntmps:=18,code:=codeOf (bJ Try.prog 115 [[0,2,3,4]]),results:=[(.cell 2 true 1)] }
theorem VX:bJ Try.prog 115 [[0,2,3,4]]=some L9:=by kernel_rfl
theorem VY:L9.code.cZ=true:=by kernel_rfl
noncomputable def Np:dI:=(cL (cK (cB (cA (cB (cB L9.code))))))
theorem QK:Np.cZ=true:=by kernel_rfl
noncomputable def O6:dD:={ nargs:=1,ntmps:=26,code:=codeOf (bJ Try.prog 116 []),results:=[(.tmp 2)] }
theorem VZ:bJ Try.prog 116 []=some O6:=by kernel_rfl
theorem V3:O6.code.cZ=true:=by kernel_rfl
noncomputable def L_:dD:={ nargs:=2,ntmps:=34,code:=codeOf (bJ Try.prog 117 [[0,1,4,6]]),results:=[(.cell 4 true 4),(.tmp 5)] }
theorem V4:bJ Try.prog 117 [[0,1,4,6]]=some L_:=by kernel_rfl
theorem V5:L_.code.cZ=true:=by kernel_rfl
noncomputable def FV:dI:=(cL (cK (cB (cA (cB L_.code)))))
theorem J3:FV.cZ=true:=by kernel_rfl
noncomputable def J4:dD:={ nargs:=2,ntmps:=147,code:=codeOf (bJ Try.prog 118 []),results:=[(.cell 4 true 2)] }
theorem V6:bJ Try.prog 118 []=some J4:=by kernel_rfl
theorem V7:J4.code.cZ=true:=by kernel_rfl
noncomputable def sM:dI:=(cA (cT (cB (cF (cB (cK (cB (cA (cB (cB (cB J4.code)))))))))))
theorem vw:sM.cZ=true:=by kernel_rfl
noncomputable def oz:dI:=(cA (cB (cB (cB (cT (cB (cF (cB (cK (cB (cA (cB (cB (cB J4.code))))))))))))))
theorem rG:oz.cZ=true:=by kernel_rfl
noncomputable def Ei:dD:={ nargs:=2,ntmps:=96,code:=codeOf (bJ Try.prog 119 [[0,3,7,8,9]]),results:=[(.tmp 4)] }
theorem V8:bJ Try.prog 119 [[0,3,7,8,9]]=some Ei:=by kernel_rfl
theorem V9:Ei.code.cZ=true:=by kernel_rfl
noncomputable def GV:dI:=(cA (cB (cB Ei.code)))
theorem FW:GV.cZ=true:=by kernel_rfl
noncomputable def FX:dI:=(cL (cK (cB (cA (cB (cB (cB (cB (cB Ei.code)))))))))
theorem J5:FX.cZ=true:=by kernel_rfl
noncomputable def ql:dI:=(cA (cK (cA (cB (cL (cK (cB (cA (cB (cB (cB (cB (cB Ei.code)))))))))))))
theorem sN:ql.cZ=true:=by kernel_rfl
noncomputable def oF:dI:=(cA (cA (cK (cA (cB (cL (cK (cB (cA (cB (cB (cB (cB (cB Ei.code))))))))))))))
theorem rJ:oF.cZ=true:=by kernel_rfl
noncomputable def zx:dI:=(cA (cB (cB (cB (cB (cB (cB Ei.code)))))))
theorem zZ:zx.cZ=true:=by kernel_rfl
noncomputable def Ma:dD:={ nargs:=2,ntmps:=19,code:=codeOf (bJ Try.prog 120 [[0,1,7,8]]),results:=[(.tmp 4)] }
theorem V_:bJ Try.prog 120 [[0,1,7,8]]=some Ma:=by kernel_rfl
theorem Wd:Ma.code.cZ=true:=by kernel_rfl
noncomputable def Nq:dI:=(cL (cK (cB (cA (cB Ma.code)))))
theorem QL:Nq.cZ=true:=by kernel_rfl
noncomputable def O7:dD:={ nargs:=1,ntmps:=6,code:=codeOf (bJ Try.prog 125 []),results:=[(.tmp 2)] }
theorem Wh:bJ Try.prog 125 []=some O7:=by kernel_rfl
theorem Wi:O7.code.cZ=true:=by kernel_rfl
noncomputable def O8:dD:={ nargs:=2,ntmps:=10,code:=codeOf (bJ Try.prog 127 []),results:=[] }
theorem Wj:bJ Try.prog 127 []=some O8:=by kernel_rfl
theorem Wm:O8.code.cZ=true:=by kernel_rfl
noncomputable def Mc:dD:={ nargs:=1,ntmps:=58,code:=codeOf (bJ Try.prog 128 []),results:=[(.tmp 2)] }
theorem Wn:bJ Try.prog 128 []=some Mc:=by kernel_rfl
theorem Wo:Mc.code.cZ=true:=by kernel_rfl
noncomputable def O9:dI:=(cA (cB Mc.code))
theorem O_:O9.cZ=true:=by kernel_rfl
noncomputable def Md:dD:={ nargs:=2,ntmps:=42,code:=codeOf (bJ Try.prog 129 [[0,1,6]]),results:=[(.tmp 4),(.tmp 5)] }
theorem Wp:bJ Try.prog 129 [[0,1,6]]=some Md:=by kernel_rfl
theorem Wq:Md.code.cZ=true:=by kernel_rfl
noncomputable def FY:dI:=(cL (cK (cB (cA (cB Md.code)))))
theorem J6:FY.cZ=true:=by kernel_rfl
noncomputable def Pb:dD:={ nargs:=2,ntmps:=14,code:=codeOf (bJ Try.prog 132 []),results:=[] }
theorem Ws:bJ Try.prog 132 []=some Pb:=by kernel_rfl
theorem Wt:Pb.code.cZ=true:=by kernel_rfl
noncomputable def Pf:dD:={ nargs:=1,ntmps:=28,code:=codeOf (bJ Try.prog 133 [[0,2,3]]),results:=[] }
theorem Wu:bJ Try.prog 133 [[0,2,3]]=some Pf:=by kernel_rfl
theorem Wv:Pf.code.cZ=true:=by kernel_rfl
def Me{α:Type}:List (Nat×α)→Nat→Option α
 | [],_=>none
 | p::r,n=>match Nat.beq p.1 n with
  | true=>some p.2
  | false=>Me r n
theorem Dt{α:Type}:∀ {l:List (Nat×α)} {n:Nat} {x:α},Me l n=some x→(n,x)∈l
 | [],n,x,h=>by cases h
 | p::r,n,x,h=>by
  simp only[Me]at h
  split at h
  ·rename_i e
   obtain rfl:=ak h
   rw[←bg e]
   exact List.mem_cons_self
  ·exact List.mem_cons_of_mem _ (Dt h)
noncomputable def Z6:List (Nat×dD):=[(11,Nf),(13,SQ),(14,SS),(23,Vg),(45,Qv),(46,Vh),(47,Vi),(48,Vj),(50,Vk),(51,Vl),(52,SV),(54,Qw),(55,Vm),(56,Vn),(57,Vo),(58,Qy),(59,OW),(60,Vp),(61,Vq),(62,Ta),(63,Td),(64,Vr),(81,Nk),(82,Vs),(83,Vt),(84,Vu),(85,Vv),(86,Vw),(87,Vx),(88,Vy),(89,Vz),(90,VA),(91,Te),(92,VB),(93,Tg),(94,Tj),(95,VD),(96,VE),(97,Tn),(98,VF),(99,Tp),(109,L6),(110,OZ),(111,O4),(112,O5),(113,Z5),(114,L8),(115,L9),(116,O6),(117,L_),(118,J4),(119,Ei),(120,Ma),(125,O7),(127,O8),(128,Mc),(129,Md),(132,Pb),(133,Pf)]
noncomputable def Ww:FuncId→Option dD:=Me Z6
theorem aaC:Hq Try.prog 126 Z0:=aaA (fn:=Try.f126) (tS:=74) (tR:=4) (e:=87) (size:=2) Try.func126 rfl rfl (by kernel_rfl) (by kernel_rfl) Try.underlying74 (by kernel_rfl)
def wGL:List (Nat×(List AV→Heap→Option (AV×Heap))):=[(113,Qq 2 32)]
def wG:MJ:=Me wGL
theorem aaD:∀p∈wGL,(Et Try.prog p.1∧Sound Try.prog p.1 p.2)∨Hq Try.prog p.1 p.2 :=
 aG.2 ⟨.inl (Qr (hs:=[]) (zero:=[(.str []),(.str [])]) rfl (by decide) (show bJ Try.prog 113 []=some (Iu 2 32 [(.str []),(.str [])] 126 127)by kernel_rfl) (by decide) aaC),(λ_ h=>by cases h)⟩
theorem abm:∀f g,wG f=some g→(Et Try.prog f∧Sound Try.prog f g)∨Hq Try.prog f g:=λf g h=>aaD (f,g) (Dt h)
noncomputable def bA:Tab:=(wG,Ww)
theorem Wx:∀p∈Z6,∃h,bJ Try.prog p.1 h=some p.2 :=
 aG.2 ⟨⟨_,X3⟩,aG.2 ⟨⟨_,X5⟩,aG.2 ⟨⟨_,X7⟩,aG.2 ⟨⟨_,X9⟩,aG.2 ⟨⟨_,Ya⟩,aG.2 ⟨⟨_,Yc⟩,aG.2 ⟨⟨_,Ye⟩,aG.2 ⟨⟨_,Yg⟩,aG.2 ⟨⟨_,Yi⟩,aG.2 ⟨⟨_,Yk⟩,aG.2 ⟨⟨_,Ym⟩,aG.2 ⟨⟨_,Yo⟩,aG.2 ⟨⟨_,Yq⟩,aG.2 ⟨⟨_,Yt⟩,aG.2 ⟨⟨_,Yv⟩,aG.2 ⟨⟨_,Yx⟩,aG.2 ⟨⟨_,Yz⟩,aG.2 ⟨⟨_,YB⟩,aG.2 ⟨⟨_,YD⟩,aG.2 ⟨⟨_,YF⟩,aG.2 ⟨⟨_,YH⟩,aG.2 ⟨⟨_,YJ⟩,aG.2 ⟨⟨_,YL⟩,aG.2 ⟨⟨_,YN⟩,aG.2 ⟨⟨_,YP⟩,aG.2 ⟨⟨_,YR⟩,aG.2 ⟨⟨_,YT⟩,aG.2 ⟨⟨_,YV⟩,aG.2 ⟨⟨_,YX⟩,aG.2 ⟨⟨_,Y0⟩,aG.2 ⟨⟨_,Y3⟩,aG.2 ⟨⟨_,Y5⟩,aG.2 ⟨⟨_,Y7⟩,aG.2 ⟨⟨_,Y9⟩,aG.2 ⟨⟨_,Za⟩,aG.2 ⟨⟨_,Zc⟩,aG.2 ⟨⟨_,Ze⟩,aG.2 ⟨⟨_,Zg⟩,aG.2 ⟨⟨_,Zi⟩,aG.2 ⟨⟨_,Zk⟩,aG.2 ⟨⟨_,Zm⟩,aG.2 ⟨⟨_,VG⟩,aG.2 ⟨⟨_,VJ⟩,aG.2 ⟨⟨_,VN⟩,aG.2 ⟨⟨_,VP⟩,aG.2 ⟨⟨_,VT⟩,aG.2 ⟨⟨_,VU⟩,aG.2 ⟨⟨_,VX⟩,aG.2 ⟨⟨_,VZ⟩,aG.2 ⟨⟨_,V4⟩,aG.2 ⟨⟨_,V6⟩,aG.2 ⟨⟨_,V8⟩,aG.2 ⟨⟨_,V_⟩,aG.2 ⟨⟨_,Wh⟩,aG.2 ⟨⟨_,Wj⟩,aG.2 ⟨⟨_,Wn⟩,aG.2 ⟨⟨_,Wp⟩,aG.2 ⟨⟨_,Ws⟩,aG.2 ⟨⟨_,Wu⟩,(λ_ h=>by cases h)⟩⟩⟩⟩⟩⟩⟩⟩⟩⟩⟩⟩⟩⟩⟩⟩⟩⟩⟩⟩⟩⟩⟩⟩⟩⟩⟩⟩⟩⟩⟩⟩⟩⟩⟩⟩⟩⟩⟩⟩⟩⟩⟩⟩⟩⟩⟩⟩⟩⟩⟩⟩⟩⟩⟩⟩⟩⟩⟩
theorem Zo{f:FuncId}{x:dD}(h:Ww f=some x):∃hs,bJ Try.prog f hs=some x:=Wx (f,x) (Dt h)
theorem ab7:bA.1 11=none∧bA.2 11=some Nf∧Nf.code.cZ=true:=uh rfl (by kernel_rfl) X4
theorem abn:bA.1 13=none∧bA.2 13=some SQ∧SQ.code.cZ=true:=uh rfl (by kernel_rfl) X6
theorem abo:bA.1 14=none∧bA.2 14=some SS∧SS.code.cZ=true:=uh rfl (by kernel_rfl) X8
theorem ab8:bA.1 23=none∧bA.2 23=some Vg∧Vg.code.cZ=true:=uh rfl (by kernel_rfl) X_
theorem ab9:bA.1 45=none∧bA.2 45=some Qv∧Qv.code.cZ=true:=uh rfl (by kernel_rfl) Yb
theorem abp:bA.1 46=none∧bA.2 46=some Vh∧Vh.code.cZ=true:=uh rfl (by kernel_rfl) Yd
theorem acd:bA.1 47=none∧bA.2 47=some Vi∧Vi.code.cZ=true:=uh rfl (by kernel_rfl) Yf
theorem abq:bA.1 48=none∧bA.2 48=some Vj∧Vj.code.cZ=true:=uh rfl (by kernel_rfl) Yh
theorem ace:bA.1 50=none∧bA.2 50=some Vk∧Vk.code.cZ=true:=uh rfl (by kernel_rfl) Yj
theorem acf:bA.1 51=none∧bA.2 51=some Vl∧Vl.code.cZ=true:=uh rfl (by kernel_rfl) Yl
theorem abr:bA.1 52=none∧bA.2 52=some SV∧SV.code.cZ=true:=uh rfl (by kernel_rfl) Yn
theorem acg:bA.1 54=none∧bA.2 54=some Qw∧Qw.code.cZ=true:=uh rfl (by kernel_rfl) Yp
theorem abt:bA.1 55=none∧bA.2 55=some Vm∧Vm.code.cZ=true:=uh rfl (by kernel_rfl) Yr
theorem abu:bA.1 56=none∧bA.2 56=some Vn∧Vn.code.cZ=true:=uh rfl (by kernel_rfl) Yu
theorem ach:bA.1 57=none∧bA.2 57=some Vo∧Vo.code.cZ=true:=uh rfl (by kernel_rfl) Yw
theorem acj:bA.1 58=none∧bA.2 58=some Qy∧Qy.code.cZ=true:=uh rfl (by kernel_rfl) Yy
theorem acn:bA.1 59=none∧bA.2 59=some OW∧OW.code.cZ=true:=uh rfl (by kernel_rfl) YA
theorem acp:bA.1 60=none∧bA.2 60=some Vp∧Vp.code.cZ=true:=uh rfl (by kernel_rfl) YC
theorem acr:bA.1 61=none∧bA.2 61=some Vq∧Vq.code.cZ=true:=uh rfl (by kernel_rfl) YE
theorem abv:bA.1 62=none∧bA.2 62=some Ta∧Ta.code.cZ=true:=uh rfl (by kernel_rfl) YG
theorem acs:bA.1 63=none∧bA.2 63=some Td∧Td.code.cZ=true:=uh rfl (by kernel_rfl) YI
theorem acV:bA.1 64=none∧bA.2 64=some Vr∧Vr.code.cZ=true:=uh rfl (by kernel_rfl) YK
theorem acu:bA.1 81=none∧bA.2 81=some Nk∧Nk.code.cZ=true:=uh rfl (by kernel_rfl) YM
theorem abw:bA.1 82=none∧bA.2 82=some Vs∧Vs.code.cZ=true:=uh rfl (by kernel_rfl) YO
theorem abx:bA.1 83=none∧bA.2 83=some Vt∧Vt.code.cZ=true:=uh rfl (by kernel_rfl) YQ
theorem aby:bA.1 84=none∧bA.2 84=some Vu∧Vu.code.cZ=true:=uh rfl (by kernel_rfl) YS
theorem acW:bA.1 85=none∧bA.2 85=some Vv∧Vv.code.cZ=true:=uh rfl (by kernel_rfl) YU
theorem acX:bA.1 86=none∧bA.2 86=some Vw∧Vw.code.cZ=true:=uh rfl (by kernel_rfl) YW
theorem acY:bA.1 87=none∧bA.2 87=some Vx∧Vx.code.cZ=true:=uh rfl (by kernel_rfl) YZ
theorem acv:bA.1 88=none∧bA.2 88=some Vy∧Vy.code.cZ=true:=uh rfl (by kernel_rfl) Y1
theorem acw:bA.1 89=none∧bA.2 89=some Vz∧Vz.code.cZ=true:=uh rfl (by kernel_rfl) Y4
theorem abz:bA.1 90=none∧bA.2 90=some VA∧VA.code.cZ=true:=uh rfl (by kernel_rfl) Y6
theorem acy:bA.1 91=none∧bA.2 91=some Te∧Te.code.cZ=true:=uh rfl (by kernel_rfl) Y8
theorem acz:bA.1 92=none∧bA.2 92=some VB∧VB.code.cZ=true:=uh rfl (by kernel_rfl) Y_
theorem acA:bA.1 93=none∧bA.2 93=some Tg∧Tg.code.cZ=true:=uh rfl (by kernel_rfl) Zb
theorem acB:bA.1 94=none∧bA.2 94=some Tj∧Tj.code.cZ=true:=uh rfl (by kernel_rfl) Zd
theorem acC:bA.1 95=none∧bA.2 95=some VD∧VD.code.cZ=true:=uh rfl (by kernel_rfl) Zf
theorem acD:bA.1 96=none∧bA.2 96=some VE∧VE.code.cZ=true:=uh rfl (by kernel_rfl) Zh
theorem acE:bA.1 97=none∧bA.2 97=some Tn∧Tn.code.cZ=true:=uh rfl (by kernel_rfl) Zj
theorem acF:bA.1 98=none∧bA.2 98=some VF∧VF.code.cZ=true:=uh rfl (by kernel_rfl) Zl
theorem acG:bA.1 99=none∧bA.2 99=some Tp∧Tp.code.cZ=true:=uh rfl (by kernel_rfl) Zn
theorem abA:bA.1 109=none∧bA.2 109=some L6∧L6.code.cZ=true:=uh rfl (by kernel_rfl) VH
theorem abB:bA.1 110=none∧bA.2 110=some OZ∧OZ.code.cZ=true:=uh rfl (by kernel_rfl) VK
theorem abC:bA.1 111=none∧bA.2 111=some O4∧O4.code.cZ=true:=uh rfl (by kernel_rfl) VO
theorem Z7:bA.1 112=none∧bA.2 112=some O5∧O5.code.cZ=true:=uh rfl (by kernel_rfl) VQ
theorem abD:bA.1 114=none∧bA.2 114=some L8∧L8.code.cZ=true:=uh rfl (by kernel_rfl) VW
theorem abE:bA.1 115=none∧bA.2 115=some L9∧L9.code.cZ=true:=uh rfl (by kernel_rfl) VY
theorem abF:bA.1 116=none∧bA.2 116=some O6∧O6.code.cZ=true:=uh rfl (by kernel_rfl) V3
theorem Z8:bA.1 117=none∧bA.2 117=some L_∧L_.code.cZ=true:=uh rfl (by kernel_rfl) V5
theorem Z9:bA.1 118=none∧bA.2 118=some J4∧J4.code.cZ=true:=uh rfl (by kernel_rfl) V7
theorem Z_:bA.1 119=none∧bA.2 119=some Ei∧Ei.code.cZ=true:=uh rfl (by kernel_rfl) V9
theorem abG:bA.1 120=none∧bA.2 120=some Ma∧Ma.code.cZ=true:=uh rfl (by kernel_rfl) Wd
theorem abH:bA.1 125=none∧bA.2 125=some O7∧O7.code.cZ=true:=uh rfl (by kernel_rfl) Wi
theorem acM:bA.1 127=none∧bA.2 127=some O8∧O8.code.cZ=true:=uh rfl (by kernel_rfl) Wm
theorem abI:bA.1 128=none∧bA.2 128=some Mc∧Mc.code.cZ=true:=uh rfl (by kernel_rfl) Wo
theorem aac:bA.1 129=none∧bA.2 129=some Md∧Md.code.cZ=true:=uh rfl (by kernel_rfl) Wq
theorem acN:bA.1 132=none∧bA.2 132=some Pb∧Pb.code.cZ=true:=uh rfl (by kernel_rfl) Wt
theorem acO:bA.1 133=none∧bA.2 133=some Pf∧Pf.code.cZ=true:=uh rfl (by kernel_rfl) Wv
def wBL:List (Nat×Bt):=[(64,.clip 4),(85,.del 2),(86,.clone 2 32),(87,.clip 2),(113,.ins 2 32)]
def wB:FuncId→Option Bt:=Me wBL
theorem aaE(d:Nat):∀p∈wBL,Pz (aY bA (d+1)) p.1 p.2 :=
 aG.2 ⟨OL rfl (show bA.2 64=some (LM 4)by kernel_rfl),aG.2 ⟨X0 (bytes:=32) (zero:=[(.str []),(.str [])]) rfl rfl (show bA.2 85=some (Ve 2 32 [(.str []),(.str [])])by kernel_rfl),aG.2 ⟨SF (zero:=[(.str []),(.str [])]) rfl (show bA.2 86=some (Co 2 32 [(.str []),(.str [])])by kernel_rfl),aG.2 ⟨OL rfl (show bA.2 87=some (LM 2)by kernel_rfl),aG.2 ⟨XT rfl,(λ_ h=>by cases h)⟩⟩⟩⟩⟩
theorem Ej(d:Nat):∀f b,wB f=some b→Pz (aY bA (d+1)) f b:=λf b h=>aaE d (f,b) (Dt h)
def dR(n:Int)(m:Int):Option (Int) :=
 (XK .i64 n m).bind λ(x1:Int)=>cond (decide (x1<0)) (some (IntKind.i64.wrap (x1+m))) (some x1)
def H_(n:Int)(m:Int)(r:Int):AV×WH:=((.int .i64 r),[])
theorem gG(d:Nat){n:Int}{m:Int}{r:Int}(h:dR n m=some r):Spec (aY bA (d+1)) 23 [(.int .i64 n),(.int .i64 m)] [] (H_ n m r).1 (H_ n m r).2:=by
 unfold dR at h
 exact bR nB ab8 h (.bd λx1 q1=>.v 7 (.int .i64 x1)<|.ob (aaw q1:zS .rem .i64 n m=some (.int .i64 x1))<|.br 9 (λ_=>Fn Fo [] none) λ_=>Fn Fo [] none)
abbrev GX(o:bG):Fast×WH:=([(1,(.ptr (some (0,0))))],[(some (.cells (dU o) false false))])
def FZ(o:bG):Unit⊕Unit→Ex×Fast×WH:=fun
 |.inl e=>(.ret,[(2,(.bool false))],[])
 |.inr e=>(.normal,[(1,(.ptr (some (0,0))))],[(some (.cells (dU o) false false))])
def uX(o:bG):Option (Unit⊕Unit) :=
 cond (decide (o.Kind<1)) (some (.inl ())) (cond (decide (o.Kind>4)) (some (.inl ())) (cond (decide ((o.Key.length:Int)<1)) (some (.inl ())) (cond (decide ((o.Key.length:Int)>8)) (some (.inl ())) (cond (decide ((o.Value.length:Int)>16)) (some (.inl ())) (cond (decide ((o.Old.length:Int)>16)) (some (.inl ())) (some (.inr ())))))))
theorem Br(d:Nat){o:bG}{r:Unit⊕Unit}(h:uX o=some r):fA (bM (aY bA (d+0)) KK 58 O9) 0 (GX o) (FZ o r):=by
 unfold uX at h
 exact dL nB O_ h (.br 6 (λ_=>E0 [2]) λ_=>.br 11 (λ_=>E0 [2]) λ_=>.br 17 (λ_=>E0 [2]) λ_=>.br 23 (λ_=>E0 [2]) λ_=>.br 29 (λ_=>E0 [2]) λ_=>.br 34 (λ_=>E0 [2]) λ_=>E0 [1])
def ru(o:bG):Option (Bool) :=
 (uX o).bind λ(x1:Unit⊕Unit)=>cond (nV x1) (some false) (cond (o.Value==([]:List UInt8)) (cond (o.Old==([]:List UInt8)) (some true) (some (o.Kind==4))) (cond (o.Kind==2) (cond (o.Old==([]:List UInt8)) (some true) (some (o.Kind==4))) (cond (o.Kind==4) (cond (o.Old==([]:List UInt8)) (some true) (some (o.Kind==4))) (some false))))
def Cr(o:bG)(r:Bool):AV×WH:=((.bool r),[])
theorem Ba(d:Nat){o:bG}{r:Bool}(h:ru o=some r):Spec (aY bA (d+1)) 128 [(.agg (dU o))] [] (Cr o r).1 (Cr o r).2:=by
 unfold ru at h
 exact bR nB abI h (.sk<|.bd λx1 q1=>.ite (λhb2=>Jn [1] [none] [] [] (wC (il hb2) (Br (d+0) q1))<|Fn Fo [] none) λhb2=>Jn [1] [none] [] [] (wC (Iq hb2) (Br (d+0) q1))<|.br 38 (λ_=>.br 52 (λ_=>Fn Fo [] none) λ_=>Fn Fo [] none) λ_=>.br 43 (λ_=>.br 52 (λ_=>Fn Fo [] none) λ_=>Fn Fo [] none) λ_=>.br 48 (λ_=>.br 52 (λ_=>Fn Fo [] none) λ_=>Fn Fo [] none) λ_=>Fn Fo [] none)
def kK(aZ:List aB)(key:List UInt8)(s3:Int):List AV×WH:=([(.ptr (some (0,0))),(.str key),(.int .i64 s3)],[(some (.cells [(.acc 1 0 2 aZ.length true)] false false)),(some (.cells (aO aZ) false true))])
def mK(aZ:List aB)(key:List UInt8):(Int×Bool)⊕Unit→Ex×Fast×WH:=fun
 |.inl e=>(.ret,[(4,(.int .i64 e.1)),(5,(.bool e.2))],[(some (.cells [(.acc 1 0 2 aZ.length true)] false false)),(some (.cells (aO aZ) false true))])
 |.inr e=>((.exit 0),[(0,(.ptr (some (0,0))))],[(some (.cells [(.acc 1 0 2 aZ.length true)] false false)),(some (.cells (aO aZ) false true))])
abbrev BI(aZ:List aB)(key:List UInt8):=g_ [0,1,6] (kK aZ key) (mK aZ key)
def jh(aZ:List aB)(key:List UInt8)(s3:Int):Option ((Int)⊕((Int×Bool)⊕Unit)) :=
 cond (decide (s3<(aZ.length:Int))) ((dS aZ s3).bind λ(x4:aB)=>cond (!(Op.bytesLess x4.Key key)) ((dS aZ s3).bind λ(x5:aB)=>some (.inr (.inl (s3,(x5.Key==key))))) (some (.inl (IntKind.i64.wrap (s3+1))))) (some (.inr (.inr ())))
def rz(aZ:List aB)(key:List UInt8)(s3:Int):Option ((Int×Bool)⊕Unit):=gY (jh aZ key) KK s3
theorem Ct(d:Nat){aZ:List aB}{key:List UInt8}{s3:Int}{r:(Int)⊕((Int×Bool)⊕Unit)}(h:jh aZ key s3=some r):fA (bM (aY bA (d+0)) KK 42 FY) 2 (yt [0,1,6] (kK aZ key s3)) (BI aZ key r):=by
 unfold jh at h
 exact dL nB J6 h (.br 13 (λ_=>.bd λx4 q4=>Ia aR 21 1 q4<|Ld aR 23 false 1 0 q4 (.str x4.Key) rfl<|.br 25 (λ_=>.bd λx5 q5=>Ia aR 32 1 q5<|Ld aR 34 false 1 0 q5 (.str x5.Key) rfl<|E0 [4,5]) λ_=>E0 [0,1,6]) λ_=>E0 [0])
theorem vB(d:Nat){aZ:List aB}{key:List UInt8}{s3:Int}{r:(Int×Bool)⊕Unit}(h:rz aZ key s3=some r):fA (jW (bM (aY bA (d+0)) KK 42 FY) [0,1,6] KK) 2 (yt [0,1,6] (kK aZ key s3)) (mK aZ key r) :=
 iw (st:=kK aZ key) (fin:=mK aZ key) (step:=jh aZ key) (λe=>by rcases e with e | e<;>(intro h;cases h)) (λs x h=>Ct d h) KK s3 r h
def lu(key:List UInt8)(aZ:List aB):Option (Int×Bool) :=
 (rz aZ key 0).bind λ(x6:(Int×Bool)⊕Unit)=>cond (nV x6) (some ((FR x6).1,(FR x6).2)) (some ((aZ.length:Int),false))
def wD(key:List UInt8)(aZ:List aB)(r:Int×Bool):AV×WH:=((.tuple [(.int .i64 r.1),(.bool r.2)]),[(some (.cells [(.acc 1 0 2 aZ.length true)] false false)),(some (.cells (aO aZ) false true))])
theorem F3(d:Nat){key:List UInt8}{aZ:List aB}{r:Int×Bool}(h:lu key aZ=some r):Spec (aY bA (d+1)) 129 [(.ptr (some (0,0))),(.str key)] [(some (.cells [(.acc 1 0 2 aZ.length true)] false false)),(some (.cells (aO aZ) false true))] (wD key aZ r).1 (wD key aZ r).2:=by
 unfold lu at h
 exact bR nB aac h (.bd λx6 q6=>.ite (λGY=>Lp [none,none,none] [] [] (wC (il GY) (vB (d+0) q6))<|Fn Fo [] none) λGY=>Lp [none,none,none] [] [] (wC (Iq GY) (vB (d+0) q6))<|Fn Fo [] none)
abbrev DF(x2:Int×Bool)(aZ:List aB)(o:bG):Fast×WH:=([(0,(.ptr (some (0,0)))),(3,(.ptr (some (2,0)))),(4,(.ptr (some (3,0)))),(5,(.int .i64 x2.1)),(6,(.bool x2.2))],[(some (.cells [(.acc 1 0 2 aZ.length true)] false false)),(some (.cells (aO aZ) false true)),(some (.cells (dU o) false false)),(some (.cells (cu (⟨0,([]:List UInt8)⟩:aH)) false false))])
def Cu(x2:Int×Bool)(aZ:List aB)(o:bG):Unit⊕Unit→Ex×Fast×WH:=fun
 |.inl e=>(.ret,[(4,(.ptr (some (2,0))))],[(some (.cells [(.acc 1 0 2 aZ.length true)] false false)),(some (.cells (aO aZ) false true)),(some (.cells (cu (⟨5,([]:List UInt8)⟩:aH)) false false))])
 |.inr e=>(.normal,[(0,(.ptr (some (0,0)))),(3,(.ptr (some (2,0)))),(4,(.ptr (some (3,0)))),(5,(.int .i64 x2.1)),(6,(.bool x2.2))],[(some (.cells [(.acc 1 0 2 aZ.length true)] false false)),(some (.cells (aO aZ) false true)),(some (.cells (dU o) false false)),(some (.cells (cu (⟨0,([]:List UInt8)⟩:aH)) false false))])
def pJ(x2:Int×Bool)(aZ:List aB)(o:bG):Option (Unit⊕Unit) :=
 cond (!x2.2) (cond (decide ((aZ.length:Int)≥8)) (some (.inl ())) (some (.inr ()))) (some (.inr ()))
theorem xQ(d:Nat){x2:Int×Bool}{aZ:List aB}{o:bG}{r:Unit⊕Unit}(h:pJ x2 aZ o=some r):fA (bM (aY bA (d+0)) KK 147 sM) 2 (DF x2 aZ o) (Cu x2 aZ o r):=by
 unfold pJ at h
 exact dL nB vw h (.br 40 (λ_=>.br 47 (λ_=>.st none<|E0 [4]) λ_=>E0 [0,3,4,5,6]) λ_=>E0 [0,3,4,5,6])
abbrev DJ(x2:Int×Bool)(x6:List aB)(o:bG)(aZ:List aB):Fast×WH:=([(0,(.ptr (some (0,0)))),(4,(.ptr (some (2,0)))),(5,(.int .i64 x2.1)),(6,(.bool x2.2)),(7,(.acc 3 0 2 (x6++[(⟨o.Key,o.Value⟩:aB)]).length true))],[(some (.cells [(.acc 1 0 2 aZ.length true)] false false)),(some (.cells (aO aZ) false true)),(some (.cells (cu (⟨0,([]:List UInt8)⟩:aH)) false false)),(some (.cells (aO (x6++[(⟨o.Key,o.Value⟩:aB)])) false true))])
def Cv(x2:Int×Bool)(x6:List aB)(o:bG)(aZ:List aB):Int→Ex×Fast×WH:=λe=>(.normal,[(0,(.ptr (some (0,0)))),(4,(.ptr (some (2,0)))),(5,(.int .i64 e)),(7,(.acc 3 0 2 (x6++[(⟨o.Key,o.Value⟩:aB)]).length true))],[(some (.cells [(.acc 1 0 2 aZ.length true)] false false)),(some (.cells (aO aZ) false true)),(some (.cells (cu (⟨0,([]:List UInt8)⟩:aH)) false false)),(some (.cells (aO (x6++[(⟨o.Key,o.Value⟩:aB)])) false true))])
def pK(x2:Int×Bool)(x6:List aB)(o:bG)(aZ:List aB):Option (Int) :=
 cond x2.2 (some (IntKind.i64.wrap (x2.1+1))) (some x2.1)
theorem ED(d:Nat){x2:Int×Bool}{x6:List aB}{o:bG}{aZ:List aB}{r:Int}(h:pK x2 x6 o aZ=some r):fA (bM (aY bA (d+0)) KK 147 oz) 2 (DJ x2 x6 o aZ) (Cv x2 x6 o aZ r):=by
 unfold pK at h
 exact dL nB rG h (.br 65 (λ_=>E1 [0,4,5,7] [none,none,none,none] [] [.undef,.undef,.undef,.slice none 2 0 0 true]) λ_=>E1 [0,4,5,7] [none,none,none,none] [] [.undef,.undef,.undef,.slice none 2 0 0 true])
def qG(o:bG)(aZ:List aB):Option (aH×List aB) :=
 (ru o).bind λ(x1:Bool)=>cond (!x1) (some ((⟨1,([]:List UInt8)⟩:aH),aZ)) ((lu o.Key aZ).bind λ(x2:Int×Bool)=>cond (o.Kind==1) (cond (!x2.2) (some ((⟨4,([]:List UInt8)⟩:aH),aZ)) ((dS aZ x2.1).bind λ(x3:aB)=>some ((⟨0,x3.Value⟩:aH),aZ))) (cond (o.Kind==2) ((pJ x2 aZ o).bind λ(x4:Unit⊕Unit)=>cond (nV x4) (some ((⟨5,([]:List UInt8)⟩:aH),aZ)) ((Ip aZ 0 x2.1).bind λ(x6:List aB)=>gd (fu 32 x6.length) (gd (fu 32 (x6++[(⟨o.Key,o.Value⟩:aB)]).length) ((pK x2 x6 o aZ).bind λ(x9:Int)=>(Ip aZ x9 aZ.length).bind λ(x10:List aB)=>gd (fu 32 ((x6++[(⟨o.Key,o.Value⟩:aB)])++x10).length) (some ((⟨0,([]:List UInt8)⟩:aH),((x6++[(⟨o.Key,o.Value⟩:aB)])++x10))))))) (cond (o.Kind==3) (cond (!x2.2) (some ((⟨4,([]:List UInt8)⟩:aH),aZ)) ((Ip aZ 0 x2.1).bind λ(Iy:List aB)=>gd (fu 32 Iy.length) ((Ip aZ (IntKind.i64.wrap (x2.1+1)) aZ.length).bind λ(GZ:List aB)=>gd (fu 32 (Iy++GZ).length) (some ((⟨0,([]:List UInt8)⟩:aH),(Iy++GZ)))))) (cond (!x2.2) (some ((⟨4,([]:List UInt8)⟩:aH),aZ)) ((dS aZ x2.1).bind λ(TG:aB)=>cond (!(TG.Value==o.Old)) ((dS aZ x2.1).bind λ(TH:aB)=>some ((⟨6,TH.Value⟩:aH),aZ)) (gd (fu 32 aZ.length) ((dS aZ x2.1).bind λ(EZ:aB)=>some ((⟨0,([]:List UInt8)⟩:aH),(aZ.set x2.1.toNat (⟨EZ.Key,o.Value⟩:aB))))))))))
def jr(o:bG)(aZ:List aB)(r:aH×List aB):AV×WH:=((.agg (cu r.1)),[(some (.cells [(.acc 2 0 2 r.2.length true)] false false)),none,(some (.cells (aO r.2) false true))])
theorem Iz(d:Nat){o:bG}{aZ:List aB}{r:aH×List aB}(h:qG o aZ=some r):Spec (aY bA (d+2)) 118 [(.ptr (some (0,0))),(.agg (dU o))] [(some (.cells [(.acc 1 0 2 aZ.length true)] false false)),(some (.cells (aO aZ) false true))] (jr o aZ r).1 (jr o aZ r).2:=by
 unfold qG at h
 exact bR nB Z9 h (.bd λx1 q1=>wT (Ba (d+0) q1)<|.br 11 (λ_=>.st none<|Fn Fo [] Tw) λ_=>.bd λx2 q2=>U9 (F3 (d+0) q2)<|.br 22 (λ_=>.br 25 (λ_=>.st none<|Fn Fo [] Tw) λ_=>.bd λx3 q3=>Ia aR 32 1 q3<|Ld aR 34 false 1 1 q3 (.str x3.Value) rfl<|.st none<|Fn Fo [] Tw) λ_=>.br 36 (λ_=>.bd λx4 q4=>.ite (λhb5=>Jn [0,3,4,5,6] [none,none,none,none,none] [] [] (wC (il hb5) (xQ (d+1) q4))<|Fn Fo [] Tw) λhb5=>Jn [0,3,4,5,6] [none,none,none,none,none] [] [] (wC (Iq hb5) (xQ (d+1) q4))<|.bd λx6 q6=>.v 55 (.acc 1 0 2 x6.length false)<|.ob (OP aR q6:wP (.slice 2 (.c (.acc 1 0 2 aZ.length true)) none (some (.c (.int .i64 x2.1))) none)=some (.acc 1 0 2 x6.length false))<|.gd λq7=>.ap 56 x6.length (aO x6)<|.ob (by(try rw[mY aR q6]);(try rw[j6 aR q6]);simp:0+x6.length=x6.length)<|.ob (by(try rw[mY aR q6]);(try rw[j6 aR q6]);first | rfl | simp[aO]:aO []++((aO aZ).drop (0)).take (x6.length*2)=aO x6)<|.ob q7<|.gd λq8=>.ap 64 (x6++[(⟨o.Key,o.Value⟩:aB)]).length (aO (x6++[(⟨o.Key,o.Value⟩:aB)]))<|.ob (by(try rw[mY aR q6]);(try rw[j6 aR q6]);simp:x6.length+1=(x6++[(⟨o.Key,o.Value⟩:aB)]).length)<|.ob (by(try rw[mY aR q6]);(try rw[j6 aR q6]);exact(Row.app aR _ _).symm:aO x6++aO ([(⟨o.Key,o.Value⟩:aB)])=aO (x6++[(⟨o.Key,o.Value⟩:aB)]))<|.ob q8<|.bd λx9 q9=>Jn [0,4,5,6,7] [none,none,none,none,none] [] [.undef,.undef,.undef,.undef,.slice none 2 0 0 true] (ED (d+1) q9)<|.bd λx10 W_=>.v 75 (.acc 1 (0+x9.toNat*2) 2 x10.length false)<|.ob (by(try rw[mY aR q6]);(try rw[j6 aR q6]);exact OO aR W_:wP (.slice 2 (.c (.acc 1 0 2 aZ.length true)) (some (.c (.int .i64 x9))) none none)=some (.acc 1 (0+x9.toNat*2) 2 x10.length false))<|.gd λWy=>.ap 76 ((x6++[(⟨o.Key,o.Value⟩:aB)])++x10).length (aO ((x6++[(⟨o.Key,o.Value⟩:aB)])++x10))<|.ob (by(try rw[mY aR q6]);(try rw[j6 aR q6]);(try rw[FT aR W_]);exact M8 _ _:(x6++[(⟨o.Key,o.Value⟩:aB)]).length+x10.length=((x6++[(⟨o.Key,o.Value⟩:aB)])++x10).length)<|.ob (by(try rw[mY aR q6]);(try rw[j6 aR q6]);(try rw[FT aR W_]);exact(Row.app aR _ _).symm:aO (x6++[(⟨o.Key,o.Value⟩:aB)])++((aO aZ).drop (0+x9.toNat*2)).take (x10.length*2)=aO ((x6++[(⟨o.Key,o.Value⟩:aB)])++x10))<|.ob Wy<|.st none<|.st none<|.kl [1]<|Fn Fo [] Tw) λ_=>.br 80 (λ_=>.br 83 (λ_=>.st none<|Fn Fo [] Tw) λ_=>.bd λIy QM=>.v 92 (.acc 1 0 2 Iy.length false)<|.ob (OP aR QM:wP (.slice 2 (.c (.acc 1 0 2 aZ.length true)) none (some (.c (.int .i64 x2.1))) none)=some (.acc 1 0 2 Iy.length false))<|.gd λZp=>.ap 93 Iy.length (aO Iy)<|.ob (by(try rw[mY aR QM]);(try rw[j6 aR QM]);simp:0+Iy.length=Iy.length)<|.ob (by(try rw[mY aR QM]);(try rw[j6 aR QM]);first | rfl | simp[aO]:aO []++((aO aZ).drop (0)).take (Iy.length*2)=aO Iy)<|.ob Zp<|.bd λGZ Wz=>.v 100 (.acc 1 (0+(IntKind.i64.wrap (x2.1+1)).toNat*2) 2 GZ.length false)<|.ob (by(try rw[mY aR QM]);(try rw[j6 aR QM]);exact OO aR Wz:wP (.slice 2 (.c (.acc 1 0 2 aZ.length true)) (some (.c (.int .i64 (IntKind.i64.wrap (x2.1+1))))) none none)=some (.acc 1 (0+(IntKind.i64.wrap (x2.1+1)).toNat*2) 2 GZ.length false))<|.gd λXa=>.ap 101 (Iy++GZ).length (aO (Iy++GZ))<|.ob (by(try rw[mY aR QM]);(try rw[j6 aR QM]);(try rw[FT aR Wz]);exact M8 _ _:Iy.length+GZ.length=(Iy++GZ).length)<|.ob (by(try rw[mY aR QM]);(try rw[j6 aR QM]);(try rw[FT aR Wz]);exact(Row.app aR _ _).symm:aO Iy++((aO aZ).drop (0+(IntKind.i64.wrap (x2.1+1)).toNat*2)).take (GZ.length*2)=aO (Iy++GZ))<|.ob Xa<|.st none<|.st none<|.kl [1]<|Fn Fo [] Tw) λ_=>.br 105 (λ_=>.st none<|Fn Fo [] Tw) λ_=>.bd λTG q16=>Ia aR 115 1 q16<|Ld aR 117 false 1 1 q16 (.str TG.Value) rfl<|.br 109 (λ_=>.bd λTH q17=>Ia aR 126 1 q17<|Ld aR 128 false 1 1 q17 (.str TH.Value) rfl<|.st none<|Fn Fo [] Tw) λ_=>.gd λq18=>ZX aR 135 q18<|.bd λEZ TI=>Ia aR 140 5 TI<|.st (some (aO (aZ.set x2.1.toNat (⟨EZ.Key,o.Value⟩:aB))))<|.ob (zu (o:=1) aR TI rfl:H6 (aO aZ) (0+x2.1.toNat*2+1) [(.str o.Value)]=some (aO (aZ.set x2.1.toNat (⟨EZ.Key,o.Value⟩:aB))))<|.st none<|.st none<|.kl [1]<|.Bo (.fin (some false) [] (some true)) _ (λr=>@Eq AV (.agg (cu (⟨0,([]:List UInt8)⟩:aH))) (jr o aZ r).1∧@Eq WH [(some (.cells [(.acc 2 0 2 aZ.length true)] false false)),none,(some (.cells (aO (aZ.set x2.1.toNat (⟨EZ.Key,o.Value⟩:aB))) false true))] (jr o aZ r).2) (by show _∧_;(try rw[show AV.list 2 aZ.length (aO (aZ.set x2.1.toNat (⟨EZ.Key,o.Value⟩:aB))) false=bP (aZ.set x2.1.toNat (⟨EZ.Key,o.Value⟩:aB))from by simp only[bP,bO]]);refine⟨?_, ?_⟩<;>first | rfl |(simp only[jr,bO,aJ,List.length_replicate,bZ,fJ,aV,aS,Nat.add_zero,Nat.zero_add];done) | simp[jr]))
def pO(l:List aB)(s7:Int×List aB):List AV×WH:=([(bP l),(.ptr (some (0,0))),(.ptr (some (1,0))),(.int .i64 s7.1)],[(some (.cells [(.acc 2 0 2 0 true)] false false)),(some (.cells [(.acc 3 0 2 s7.2.length true)] false false)),(some (.cells (aO []) false true)),(some (.cells (aO s7.2) false true))])
def sO(l:List aB):(List aB)→Ex×Fast×WH:=λe=>((.exit 0),[(2,(.ptr (some (0,0)))),(3,(.ptr (some (1,0))))],[(some (.cells [(.acc 2 0 2 0 true)] false false)),(some (.cells [(.acc 3 0 2 e.length true)] false false)),(some (.cells (aO []) false true)),(some (.cells (aO e) false true))])
abbrev G5(l:List aB):=g_ [0,2,3,4] (pO l) (sO l)
def lC(l:List aB)(s7:Int×List aB):Option ((Int×List aB)⊕((List aB))) :=
 cond (decide (s7.1<(l.length:Int))) ((dS l s7.1).bind λ(x8:aB)=>(dS l s7.1).bind λ(x9:aB)=>(qG (⟨2,x8.Key,x9.Value,([]:List UInt8)⟩:bG) s7.2).bind λ(x10:aH×List aB)=>some (.inl ((IntKind.i64.wrap (s7.1+1)),x10.2))) (some (.inr s7.2))
def zy(l:List aB)(s7:Int×List aB):Option ((List aB)):=gY (lC l) KK s7
theorem IB(d:Nat){l:List aB}{s7:Int×List aB}{r:(Int×List aB)⊕((List aB))}(h:lC l s7=some r):fA (bM (aY bA (d+2)) KK 25 Nn) 0 (yt [0,2,3,4] (pO l s7)) (G5 l r):=by
 unfold lC at h
 exact dL nB QJ h (.br 9 (λ_=>.bd λx8 q8=>Ix aR 14 q8<|.bd λx9 q9=>Ix aR 19 q9<|.bd λx10 W_=>U9 (Iz (d+0) W_)<|E1 [0,2,3,4] [none,none,none,none] [] [.slice none 2 0 0 true,.undef,.undef,.undef]) λ_=>E0 [2,3])
theorem IC(d:Nat){l:List aB}{s7:Int×List aB}{r:(List aB)}(h:zy l s7=some r):fA (jW (bM (aY bA (d+2)) KK 25 Nn) [0,2,3,4] KK) 0 (yt [0,2,3,4] (pO l s7)) (sO l r) :=
 iw (st:=pO l) (fin:=sO l) (step:=lC l) (λe=>by(intro h;cases h)) (λs x h=>IB d h) KK s7 r h
def xR(l:List aB):Option (ou) :=
 (zy l (0,[])).bind λ(Nr:(List aB))=>some (⟨Nr⟩:ou)
def Cw(l:List aB)(r:ou):AV×WH:=((.agg (Qo r)),[])
theorem Ns(d:Nat){l:List aB}{r:ou}(h:xR l=some r):Spec (aY bA (d+3)) 114 [(bP l)] [] (Cw l r).1 (Cw l r).2:=by
 unfold xR at h
 exact bR nB abD h (.z 2 [.slice none 2 0 0 true]<|.z 5 [.agg [.slice none 2 0 0 true]]<|.z 3 [.slice none 2 0 0 true]<|.st none<|.bd λNr Wy=>Lp [none,none,none,none] [Tw,Tw,Tw,Tw] [.slice none 2 0 0 true,.undef,.undef,.undef] (IC (d+0) Wy)<|.st none<|Fn Fo [.agg [.slice none 2 0 0 true]] none)
def iY(aZ:List aA)(client:Int)(s3:Int):List AV×WH:=([(.ptr (some (0,0))),(.int .i64 client),(.ptr (some (2,0))),(.int .i64 s3)],[(some (.cells [(.acc 1 0 4 aZ.length true)] false false)),(some (.cells (bB aZ) false true)),(some (.cells (bD (⟨0,0,(⟨0,([]:List UInt8)⟩:aH)⟩:aA)) false false))])
def kT(aZ:List aA)(client:Int):aA⊕Unit→Ex×Fast×WH:=fun
 |.inl e=>(.ret,[(4,(.ptr (some (2,0)))),(5,(.bool true))],[(some (.cells [(.acc 1 0 4 aZ.length true)] false false)),(some (.cells (bB aZ) false true)),(some (.cells (bD e) false false))])
 |.inr e=>((.exit 0),[(4,(.ptr (some (2,0))))],[(some (.cells [(.acc 1 0 4 aZ.length true)] false false)),(some (.cells (bB aZ) false true)),(some (.cells (bD (⟨0,0,(⟨0,([]:List UInt8)⟩:aH)⟩:aA)) false false))])
abbrev zA(aZ:List aA)(client:Int):=g_ [0,1,4,6] (iY aZ client) (kT aZ client)
def ig(aZ:List aA)(client:Int)(s3:Int):Option ((Int)⊕(aA⊕Unit)) :=
 cond (decide (s3<(aZ.length:Int))) ((dS aZ s3).bind λ(x4:aA)=>cond (x4.Client==client) ((dS aZ s3).bind λ(x5:aA)=>some (.inr (.inl x5))) (some (.inl (IntKind.i64.wrap (s3+1))))) (some (.inr (.inr ())))
def nC(aZ:List aA)(client:Int)(s3:Int):Option (aA⊕Unit):=gY (ig aZ client) KK s3
theorem z8(d:Nat){aZ:List aA}{client:Int}{s3:Int}{r:(Int)⊕(aA⊕Unit)}(h:ig aZ client s3=some r):fA (bM (aY bA (d+0)) KK 34 FV) 2 (yt [0,1,4,6] (iY aZ client s3)) (zA aZ client r):=by
 unfold ig at h
 exact dL nB J3 h (.br 13 (λ_=>.bd λx4 q4=>Ia bQ 21 1 q4<|Ld bQ 23 false 1 0 q4 (.int .i64 x4.Client) rfl<|.br 25 (λ_=>.bd λx5 q5=>Ia bQ 31 1 q5<|Ld bQ 32 true 4 0 q5 (.agg (bD x5)) rfl<|.st none<|E0 [4,5]) λ_=>E0 [0,1,4,6]) λ_=>E0 [4])
theorem rO(d:Nat){aZ:List aA}{client:Int}{s3:Int}{r:aA⊕Unit}(h:nC aZ client s3=some r):fA (jW (bM (aY bA (d+0)) KK 34 FV) [0,1,4,6] KK) 2 (yt [0,1,4,6] (iY aZ client s3)) (kT aZ client r) :=
 iw (st:=iY aZ client) (fin:=kT aZ client) (step:=ig aZ client) (λe=>by rcases e with e | e<;>(intro h;cases h)) (λs x h=>z8 d h) KK s3 r h
def kE(client:Int)(aZ:List aA):Option (aA×Bool) :=
 (nC aZ client 0).bind λ(x6:aA⊕Unit)=>cond (nV x6) (some ((FR x6),true)) (some ((⟨0,0,(⟨0,([]:List UInt8)⟩:aH)⟩:aA),false))
def sP(client:Int)(aZ:List aA)(r:aA×Bool):AV×WH:=((.tuple [(.agg (bD r.1)),(.bool r.2)]),[(some (.cells [(.acc 1 0 4 aZ.length true)] false false)),(some (.cells (bB aZ) false true))])
theorem Cx(d:Nat){client:Int}{aZ:List aA}{r:aA×Bool}(h:kE client aZ=some r):Spec (aY bA (d+1)) 117 [(.ptr (some (0,0))),(.int .i64 client)] [(some (.cells [(.acc 1 0 4 aZ.length true)] false false)),(some (.cells (bB aZ) false true))] (sP client aZ r).1 (sP client aZ r).2:=by
 unfold kE at h
 exact bR nB Z8 h (.bd λx6 q6=>.ite (λGY=>Lp [none,none,none,none] [] [] (wC (il GY) (rO (d+0) q6))<|Fn Fo [] none) λGY=>Lp [none,none,none,none] [] [] (wC (Iq GY) (rO (d+0) q6))<|.st none<|Fn Fo [] none)
abbrev zB(bN:aA)(x1:aA×Bool)(aZ:List aA):Fast×WH:=([(0,(.ptr (some (0,0)))),(3,(.ptr (some (2,0)))),(5,(.ptr (some (3,0))))],[(some (.cells [(.acc 1 0 4 aZ.length true)] false false)),(some (.cells (bB aZ) false true)),(some (.cells (bD bN) false false)),(some (.cells (bD x1.1) false false))])
def yw(bN:aA)(x1:aA×Bool)(aZ:List aA):Unit⊕Unit→Ex×Fast×WH:=fun
 |.inl e=>(.ret,[(4,(.bool false))],[(some (.cells [(.acc 1 0 4 aZ.length true)] false false)),(some (.cells (bB aZ) false true))])
 |.inr e=>(.normal,[(0,(.ptr (some (0,0)))),(3,(.ptr (some (2,0))))],[(some (.cells [(.acc 1 0 4 aZ.length true)] false false)),(some (.cells (bB aZ) false true)),(some (.cells (bD bN) false false))])
def gN(bN:aA)(x1:aA×Bool)(aZ:List aA):Option (Unit⊕Unit) :=
 cond (decide (bN.Client<0)) (some (.inl ())) (cond (decide (bN.Client≥4)) (some (.inl ())) (cond (decide (bN.Seq<1)) (some (.inl ())) (cond (decide (bN.Seq≤x1.1.Seq)) (some (.inl ())) (some (.inr ())))))
theorem rP(d:Nat){bN:aA}{x1:aA×Bool}{aZ:List aA}{r:Unit⊕Unit}(h:gN bN x1 aZ=some r):fA (bM (aY bA (d+0)) KK 96 GV) 2 (zB bN x1 aZ) (yw bN x1 aZ r):=by
 unfold gN at h
 exact dL nB FW h (.br 20 (λ_=>E0 [4]) λ_=>.br 25 (λ_=>E0 [4]) λ_=>.br 30 (λ_=>E0 [4]) λ_=>.br 36 (λ_=>E0 [4]) λ_=>E0 [0,3])
abbrev zC(iO:Bool×Int×List aA)(aZ:List aA)(bN:aA):Fast×WH:=([(0,(.ptr (some (0,0)))),(3,(.ptr (some (2,0)))),(7,(.acc 3 0 4 iO.2.2.length true)),(8,(.bool iO.1)),(9,(.int .i64 iO.2.1))],[(some (.cells [(.acc 1 0 4 aZ.length true)] false false)),(some (.cells (bB aZ) false true)),(some (.cells (bD bN) false false)),(some (.cells (bB iO.2.2) false true))])
def yx(iO:Bool×Int×List aA)(aZ:List aA)(bN:aA):Bool→Ex×Fast×WH:=λe=>(.normal,[(0,(.ptr (some (0,0)))),(3,(.ptr (some (2,0)))),(7,(.acc 3 0 4 iO.2.2.length true)),(8,(.bool iO.1)),(9,(.int .i64 iO.2.1)),(60,(.bool e))],[(some (.cells [(.acc 1 0 4 aZ.length true)] false false)),(some (.cells (bB aZ) false true)),(some (.cells (bD bN) false false)),(some (.cells (bB iO.2.2) false true))])
def kL(iO:Bool×Int×List aA)(aZ:List aA)(bN:aA):Option (Bool) :=
 cond (!iO.1) ((dS aZ iO.2.1).bind λ(EZ:aA)=>some (decide (EZ.Client≥bN.Client))) (some false)
theorem z_(d:Nat){iO:Bool×Int×List aA}{aZ:List aA}{bN:aA}{r:Bool}(h:kL iO aZ bN=some r):fA (bM (aY bA (d+0)) KK 96 oF) 2 (zC iO aZ bN) (yx iO aZ bN r):=by
 unfold kL at h
 exact dL nB rJ h (.br 48 (λ_=>.bd λEZ TI=>Ia bQ 54 1 TI<|Ld bQ 56 false 1 0 TI (.int .i64 EZ.Client) rfl<|E1 [0,3,7,8,9,60] [none,none,none,none,none,none] [] [.undef,.undef,.slice none 4 0 0 true,.undef,.undef,.undef]) λ_=>E1 [0,3,7,8,9,60] [none,none,none,none,none,none] [] [.undef,.undef,.slice none 4 0 0 true,.undef,.undef,.undef])
abbrev zD(iO:Bool×Int×List aA)(aZ:List aA)(bN:aA):Fast×WH:=([(0,(.ptr (some (0,0)))),(3,(.ptr (some (2,0)))),(7,(.acc 3 0 4 iO.2.2.length true)),(8,(.bool iO.1)),(9,(.int .i64 iO.2.1))],[(some (.cells [(.acc 1 0 4 aZ.length true)] false false)),(some (.cells (bB aZ) false true)),(some (.cells (bD bN) false false)),(some (.cells (bB iO.2.2) false true))])
def yA(iO:Bool×Int×List aA)(aZ:List aA)(bN:aA):(Bool×List aA)→Ex×Fast×WH:=λe=>(.normal,[(0,(.ptr (some (0,0)))),(3,(.ptr (some (2,0)))),(7,(.acc 3 0 4 e.2.length true)),(8,(.bool e.1)),(9,(.int .i64 iO.2.1))],[(some (.cells [(.acc 1 0 4 aZ.length true)] false false)),(some (.cells (bB aZ) false true)),(some (.cells (bD bN) false false)),(some (.cells (bB e.2) false true))])
def kM(iO:Bool×Int×List aA)(aZ:List aA)(bN:aA):Option ((Bool×List aA)) :=
 (kL iO aZ bN).bind λ(x20:Bool)=>cond x20 (gd (fu 40 (iO.2.2++[bN]).length) (some (true,(iO.2.2++[bN])))) (some (iO.1,iO.2.2))
theorem Aa(d:Nat){iO:Bool×Int×List aA}{aZ:List aA}{bN:aA}{r:(Bool×List aA)}(h:kM iO aZ bN=some r):fA (bM (aY bA (d+0)) KK 96 ql) 2 (zD iO aZ bN) (yA iO aZ bN r):=by
 unfold kM at h
 exact dL nB sN h (.bd λx20 q20=>Jn [0,3,7,8,9] [none,none,none,none,none] [] [.undef,.undef,.slice none 4 0 0 true,.undef,.undef] (z_ (d+0) q20)<|.br 60 (λ_=>.gd λq21=>Ap bQ 64 q21<|E1 [0,3,7,8,9] [none,none,none,none,none] [] [.undef,.undef,.slice none 4 0 0 true,.undef,.undef]) λ_=>E1 [0,3,7,8,9] [none,none,none,none,none] [] [.undef,.undef,.slice none 4 0 0 true,.undef,.undef])
def iZ(aZ:List aA)(bN:aA)(iO:Bool×Int×List aA):List AV×WH:=([(.ptr (some (0,0))),(.ptr (some (2,0))),(.acc 3 0 4 iO.2.2.length true),(.bool iO.1),(.int .i64 iO.2.1)],[(some (.cells [(.acc 1 0 4 aZ.length true)] false false)),(some (.cells (bB aZ) false true)),(some (.cells (bD bN) false false)),(some (.cells (bB iO.2.2) false true))])
def kU(aZ:List aA)(bN:aA):(Bool×List aA)→Ex×Fast×WH:=λe=>((.exit 0),[(0,(.ptr (some (0,0)))),(3,(.ptr (some (2,0)))),(7,(.acc 3 0 4 e.2.length true)),(8,(.bool e.1))],[(some (.cells [(.acc 1 0 4 aZ.length true)] false false)),(some (.cells (bB aZ) false true)),(some (.cells (bD bN) false false)),(some (.cells (bB e.2) false true))])
abbrev zF(aZ:List aA)(bN:aA):=g_ [0,3,7,8,9] (iZ aZ bN) (kU aZ bN)
def fV(aZ:List aA)(bN:aA)(iO:Bool×Int×List aA):Option ((Bool×Int×List aA)⊕((Bool×List aA))) :=
 cond (decide (iO.2.1<(aZ.length:Int))) ((kM iO aZ bN).bind λ(Pg:(Bool×List aA))=>(dS aZ iO.2.1).bind λ(x23:aA)=>cond (x23.Client != bN.Client) ((dS aZ iO.2.1).bind λ(x24:aA)=>gd (fu 40 (Pg.2++[x24]).length) (some (.inl (Pg.1,(IntKind.i64.wrap (iO.2.1+1)),(Pg.2++[x24]))))) (some (.inl (Pg.1,(IntKind.i64.wrap (iO.2.1+1)),Pg.2)))) (some (.inr (iO.1,iO.2.2)))
def iP(aZ:List aA)(bN:aA)(iO:Bool×Int×List aA):Option ((Bool×List aA)):=gY (fV aZ bN) KK iO
theorem Ab(d:Nat){aZ:List aA}{bN:aA}{iO:Bool×Int×List aA}{r:(Bool×Int×List aA)⊕((Bool×List aA))}(h:fV aZ bN iO=some r):fA (bM (aY bA (d+0)) KK 96 FX) 2 (yt [0,3,7,8,9] (iZ aZ bN iO)) (zF aZ bN r):=by
 unfold fV at h
 exact dL nB J5 h (.br 43 (λ_=>.sk<|.bd λPg q22=>Jn [0,3,7,8,9] [none,none,none,none,none] [] [.undef,.undef,.slice none 4 0 0 true,.undef,.undef] (Aa (d+0) q22)<|.bd λx23 q23=>Ia bQ 70 1 q23<|Ld bQ 72 false 1 0 q23 (.int .i64 x23.Client) rfl<|.br 75 (λ_=>.bd λx24 q24=>Ia bQ 82 1 q24<|Ld bQ 83 true 4 0 q24 (.agg (bD x24)) rfl<|.gd λq25=>Ap bQ 85 q25<|E1 [0,3,7,8,9] [none,none,none,none,none] [] [.undef,.undef,.slice none 4 0 0 true,.undef,.undef]) λ_=>E1 [0,3,7,8,9] [none,none,none,none,none] [] [.undef,.undef,.slice none 4 0 0 true,.undef,.undef]) λ_=>E1 [0,3,7,8] [none,none,none,none] [] [.undef,.undef,.slice none 4 0 0 true,.undef])
theorem Ac(d:Nat){aZ:List aA}{bN:aA}{iO:Bool×Int×List aA}{r:(Bool×List aA)}(h:iP aZ bN iO=some r):fA (jW (bM (aY bA (d+0)) KK 96 FX) [0,3,7,8,9] KK) 2 (yt [0,3,7,8,9] (iZ aZ bN iO)) (kU aZ bN r) :=
 iw (st:=iZ aZ bN) (fin:=kU aZ bN) (step:=fV aZ bN) (λe=>by(intro h;cases h)) (λs x h=>Ab d h) KK iO r h
abbrev zG(yX:(Bool×List aA))(bN:aA)(aZ:List aA):Fast×WH:=([(0,(.ptr (some (0,0)))),(3,(.ptr (some (2,0)))),(7,(.acc 3 0 4 yX.2.length true)),(8,(.bool yX.1))],[(some (.cells [(.acc 1 0 4 aZ.length true)] false false)),(some (.cells (bB aZ) false true)),(some (.cells (bD bN) false false)),(some (.cells (bB yX.2) false true))])
def yB(yX:(Bool×List aA))(bN:aA)(aZ:List aA):(List aA)→Ex×Fast×WH:=λe=>(.normal,[(0,(.ptr (some (0,0)))),(7,(.acc 2 0 4 e.length true))],[(some (.cells [(.acc 1 0 4 aZ.length true)] false false)),(some (.cells (bB aZ) false true)),(some (.cells (bB e) false true))])
def gP(yX:(Bool×List aA))(bN:aA)(aZ:List aA):Option ((List aA)) :=
 cond (!yX.1) (gd (fu 40 (yX.2++[bN]).length) (some (yX.2++[bN]))) (some yX.2)
theorem Ad(d:Nat){yX:(Bool×List aA)}{bN:aA}{aZ:List aA}{r:(List aA)}(h:gP yX bN aZ=some r):fA (bM (aY bA (d+0)) KK 96 zx) 2 (zG yX bN aZ) (yB yX bN aZ r):=by
 unfold gP at h
 exact dL nB zZ h (.br 87 (λ_=>.gd λq27=>Ap bQ 91 q27<|E1 [0,7] [none,none] [] [.undef,.slice none 4 0 0 true]) λ_=>E1 [0,7] [none,none] [] [.undef,.slice none 4 0 0 true])
def h_(bN:aA)(aZ:List aA):Option (Bool×List aA) :=
 (kE bN.Client aZ).bind λ(x1:aA×Bool)=>(gN bN x1 aZ).bind λ(x2:Unit⊕Unit)=>cond (nV x2) (some (false,aZ)) ((iP aZ bN (false,0,[])).bind λ(yX:(Bool×List aA))=>(gP yX bN aZ).bind λ(x28:(List aA))=>some (true,x28))
def sQ(bN:aA)(aZ:List aA)(r:Bool×List aA):AV×WH:=((.bool r.1),[(some (.cells [(.acc 2 0 4 r.2.length true)] false false)),none,(some (.cells (bB r.2) false true))])
theorem Cy(d:Nat){bN:aA}{aZ:List aA}{r:Bool×List aA}(h:h_ bN aZ=some r):Spec (aY bA (d+2)) 119 [(.ptr (some (0,0))),(.agg (bD bN))] [(some (.cells [(.acc 1 0 4 aZ.length true)] false false)),(some (.cells (bB aZ) false true))] (sQ bN aZ r).1 (sQ bN aZ r).2:=by
 unfold h_ at h
 exact bR nB Z_ h (.bd λx1 q1=>U9 (Cx (d+0) q1)<|.st none<|.bd λx2 q2=>.ite (λhb3=>Jn [0,3,5] [none,none,none] [] [] (wC (il hb3) (rP (d+1) q2))<|Fn Fo [] Tw) λhb3=>Jn [0,3,5] [none,none,none] [] [] (wC (Iq hb3) (rP (d+1) q2))<|.z 7 [.slice none 4 0 0 true]<|.bd λyX q26=>Lp [none,none,Tw,none,none] [] [.undef,.undef,.slice none 4 0 0 true,.undef,.undef] (Ac (d+1) q26)<|.bd λx28 q28=>Jn [0,3,7,8] [none,none,none,none] [] [.undef,.undef,.slice none 4 0 0 true,.undef] (Ad (d+1) q28)<|.st none<|.kl [1]<|Fn Fo [] Tw)
def lW(l:List aA)(s5:Int×List aA):List AV×WH:=([(dx l),(.ptr (some (0,0))),(.ptr (some (1,0))),(.int .i64 s5.1)],[(some (.cells [(.acc 2 0 4 0 true)] false false)),(some (.cells [(.acc 3 0 4 s5.2.length true)] false false)),(some (.cells (bB []) false true)),(some (.cells (bB s5.2) false true))])
def oG(l:List aA):(List aA)→Ex×Fast×WH:=λe=>((.exit 0),[(2,(.ptr (some (0,0)))),(3,(.ptr (some (1,0))))],[(some (.cells [(.acc 2 0 4 0 true)] false false)),(some (.cells [(.acc 3 0 4 e.length true)] false false)),(some (.cells (bB []) false true)),(some (.cells (bB e) false true))])
abbrev DK(l:List aA):=g_ [0,2,3,4] (lW l) (oG l)
def iQ(l:List aA)(s5:Int×List aA):Option ((Int×List aA)⊕((List aA))) :=
 cond (decide (s5.1<(l.length:Int))) ((dS l s5.1).bind λ(x6:aA)=>(h_ x6 s5.2).bind λ(x7:Bool×List aA)=>some (.inl ((IntKind.i64.wrap (s5.1+1)),x7.2))) (some (.inr s5.2))
def uO(l:List aA)(s5:Int×List aA):Option ((List aA)):=gY (iQ l) KK s5
theorem EF(d:Nat){l:List aA}{s5:Int×List aA}{r:(Int×List aA)⊕((List aA))}(h:iQ l s5=some r):fA (bM (aY bA (d+2)) KK 18 Np) 0 (yt [0,2,3,4] (lW l s5)) (DK l r):=by
 unfold iQ at h
 exact dL nB QK h (.br 9 (λ_=>.bd λx6 q6=>Ix bQ 14 q6<|.bd λx7 q7=>U9 (Cy (d+0) q7)<|E1 [0,2,3,4] [none,none,none,none] [] [.slice none 4 0 0 true,.undef,.undef,.undef]) λ_=>E0 [2,3])
theorem EG(d:Nat){l:List aA}{s5:Int×List aA}{r:(List aA)}(h:uO l s5=some r):fA (jW (bM (aY bA (d+2)) KK 18 Np) [0,2,3,4] KK) 0 (yt [0,2,3,4] (lW l s5)) (oG l r) :=
 iw (st:=lW l) (fin:=oG l) (step:=iQ l) (λe=>by(intro h;cases h)) (λs x h=>EF d h) KK s5 r h
def qH(l:List aA):Option (lK) :=
 (uO l (0,[])).bind λ(x8:(List aA))=>some (⟨x8⟩:lK)
def yY(l:List aA)(r:lK):AV×WH:=((.agg (KH r)),[])
theorem IE(d:Nat){l:List aA}{r:lK}(h:qH l=some r):Spec (aY bA (d+3)) 115 [(dx l)] [] (yY l r).1 (yY l r).2:=by
 unfold qH at h
 exact bR nB abE h (.z 2 [.slice none 4 0 0 true]<|.z 5 [.agg [.slice none 4 0 0 true]]<|.z 3 [.slice none 4 0 0 true]<|.st none<|.bd λx8 q8=>Lp [none,none,none,none] [Tw,Tw,Tw,Tw] [.slice none 4 0 0 true,.undef,.undef,.undef] (EG (d+0) q8)<|.st none<|Fn Fo [.agg [.slice none 4 0 0 true]] none)
def sS(bN:aT):Option (aX) :=
 (xR bN.Pairs).bind λ(x1:ou)=>(qH bN.fM).bind λ(x2:lK)=>some (⟨x1,x2,bN.jJ,bN.Epoch⟩:aX)
def Ae(bN:aT)(r:aX):AV×WH:=((.ptr (some (0,0))),[(some (.cells (bS r) false false))])
theorem J7(d:Nat){bN:aT}{r:aX}(h:sS bN=some r):Spec (aY bA (d+4)) 88 [(.agg (dw bN))] [] (Ae bN r).1 (Ae bN r).2:=by
 unfold sS at h
 exact bR nB acv h (.bd λx1 q1=>Cl [] Fo [.slice none 2 0 0 true] (Ns (d+0) q1)<|.er<|.ob (rfl:@Eq (Option AV) (some (dx bN.fM)) (some (dx bN.fM)))<|.bd λx2 q2=>Cl [] Fo [.slice none 4 0 0 true] (IE (d+0) q2)<|Fn Fo [] none)
def Bb(n:Int):Option (List UInt8) :=
 (dR n 16).bind λ(x1:Int)=>(dS ([[97],[98],[99],[100],[101],[102],[103],[104],[107,97],[107,98],[107,99],[107,100],[120],[121],[122,122],[101,105,103,104,116,107,101,121]]:List (List UInt8)) x1).bind λ(x2:List UInt8)=>some x2
def J8(n:Int)(r:List UInt8):AV×WH:=((.str r),[])
theorem Ph(d:Nat){n:Int}{r:List UInt8}(h:Bb n=some r):Spec (aY bA (d+2)) 50 [(.int .i64 n)] [] (J8 n r).1 (J8 n r).2:=by
 unfold Bb at h
 exact bR nB ace h (.bd λx1 q1=>wT (gG (d+0) q1)<|.bd λx2 q2=>.v 6 (.str x2)<|.ob (ZW R_S q2:wP (.index false 16 1 (.c (.agg [(.str [97]),(.str [98]),(.str [99]),(.str [100]),(.str [101]),(.str [102]),(.str [103]),(.str [104]),(.str ([107,97])),(.str ([107,98])),(.str ([107,99])),(.str ([107,100])),(.str [120]),(.str [121]),(.str ([122,122])),(.str ([101,105,103,104,116,107,101,121]))])) (.c (.int .i64 x1)))=some (.str x2))<|Fn Fo [] none)
def mZ(n:Int):Option (List UInt8) :=
 (dR n 6).bind λ(x1:Int)=>(dS ([([]:List UInt8),[49],[50],[116,104,114,101,101],[115,105,120,116,101,101,110,32,98,121,116,101,115,32,105,116],[52]]:List (List UInt8)) x1).bind λ(x2:List UInt8)=>some x2
def F4(n:Int)(r:List UInt8):AV×WH:=((.str r),[])
theorem J9(d:Nat){n:Int}{r:List UInt8}(h:mZ n=some r):Spec (aY bA (d+2)) 51 [(.int .i64 n)] [] (F4 n r).1 (F4 n r).2:=by
 unfold mZ at h
 exact bR nB acf h (.bd λx1 q1=>wT (gG (d+0) q1)<|.bd λx2 q2=>.v 6 (.str x2)<|.ob (ZW R_S q2:wP (.index false 6 1 (.c (.agg [(.str ([]:List UInt8)),(.str [49]),(.str [50]),(.str ([116,104,114,101,101])),(.str ([115,105,120,116,101,101,110,32,98,121,116,101,115,32,105,116])),(.str [52])])) (.c (.int .i64 x1)))=some (.str x2))<|Fn Fo [] none)
abbrev Pj(x1:Int)(value:Int)(old:Int)(x2:List UInt8):Fast×WH:=([(2,(.int .i64 value)),(3,(.int .i64 old)),(8,(.ptr (some (0,0)))),(9,(.ptr (some (1,0))))],[(some (.cells (dU (⟨0,([]:List UInt8),([]:List UInt8),([]:List UInt8)⟩:bG)) false false)),(some (.cells (dU (⟨(IntKind.i64.wrap (1+x1)),x2,([]:List UInt8),([]:List UInt8)⟩:bG)) false false))])
def Nt(x1:Int)(value:Int)(old:Int)(x2:List UInt8):Bool→Ex×Fast×WH:=λe=>(.normal,[(2,(.int .i64 value)),(3,(.int .i64 old)),(8,(.ptr (some (0,0)))),(9,(.ptr (some (1,0)))),(23,(.bool e))],[(some (.cells (dU (⟨0,([]:List UInt8),([]:List UInt8),([]:List UInt8)⟩:bG)) false false)),(some (.cells (dU (⟨(IntKind.i64.wrap (1+x1)),x2,([]:List UInt8),([]:List UInt8)⟩:bG)) false false))])
def Cz(x1:Int)(value:Int)(old:Int)(x2:List UInt8):Option (Bool) :=
 cond ((IntKind.i64.wrap (1+x1))==2) (some true) (some ((IntKind.i64.wrap (1+x1))==4))
theorem QN(d:Nat){x1:Int}{value:Int}{old:Int}{x2:List UInt8}{r:Bool}(h:Cz x1 value old x2=some r):fA (bM (aY bA (d+0)) KK 34 LX) 0 (Pj x1 value old x2) (Nt x1 value old x2 r):=by
 unfold Cz at h
 exact dL nB Nh h (.br 19 (λ_=>E0 [2,3,8,9,23]) λ_=>E0 [2,3,8,9,23])
abbrev Pk(x1:Int)(value:Int)(old:Int)(x2:List UInt8):Fast×WH:=([(2,(.int .i64 value)),(3,(.int .i64 old)),(8,(.ptr (some (0,0)))),(9,(.ptr (some (1,0))))],[(some (.cells (dU (⟨0,([]:List UInt8),([]:List UInt8),([]:List UInt8)⟩:bG)) false false)),(some (.cells (dU (⟨(IntKind.i64.wrap (1+x1)),x2,([]:List UInt8),([]:List UInt8)⟩:bG)) false false))])
def Nu(x1:Int)(value:Int)(old:Int)(x2:List UInt8):bG→Ex×Fast×WH:=λe=>(.normal,[(3,(.int .i64 old)),(8,(.ptr (some (0,0)))),(9,(.ptr (some (1,0))))],[(some (.cells (dU (⟨0,([]:List UInt8),([]:List UInt8),([]:List UInt8)⟩:bG)) false false)),(some (.cells (dU e) false false))])
def CB(x1:Int)(value:Int)(old:Int)(x2:List UInt8):Option (bG) :=
 (Cz x1 value old x2).bind λ(x3:Bool)=>cond x3 ((mZ value).bind λ(x4:List UInt8)=>some (⟨(IntKind.i64.wrap (1+x1)),x2,x4,([]:List UInt8)⟩:bG)) (some (⟨(IntKind.i64.wrap (1+x1)),x2,([]:List UInt8),([]:List UInt8)⟩:bG))
theorem QO(d:Nat){x1:Int}{value:Int}{old:Int}{x2:List UInt8}{r:bG}(h:CB x1 value old x2=some r):fA (bM (aY bA (d+2)) KK 34 OU) 0 (Pk x1 value old x2) (Nu x1 value old x2 r):=by
 unfold CB at h
 exact dL nB OV h (.bd λx3 q3=>Jn [2,3,8,9] [none,none,none,none] [] [] (QN (d+2) q3)<|.br 23 (λ_=>.bd λx4 q4=>wT (J9 (d+0) q4)<|.st none<|E0 [3,8,9]) λ_=>E0 [3,8,9])
def CF(kind:Int)(key:Int)(value:Int)(old:Int):Option (bG) :=
 (dR kind 4).bind λ(x1:Int)=>(Bb key).bind λ(x2:List UInt8)=>(CB x1 value old x2).bind λ(x5:bG)=>cond (x5.Kind==4) ((mZ old).bind λ(x6:List UInt8)=>some (⟨x5.Kind,x5.Key,x5.Value,x6⟩:bG)) (some x5)
def Mf(kind:Int)(key:Int)(value:Int)(old:Int)(r:bG):AV×WH:=((.agg (dU r)),[])
theorem Zq(d:Nat){kind:Int}{key:Int}{value:Int}{old:Int}{r:bG}(h:CF kind key value old=some r):Spec (aY bA (d+3)) 45 [(.int .i64 kind),(.int .i64 key),(.int .i64 value),(.int .i64 old)] [] (Mf kind key value old r).1 (Mf kind key value old r).2:=by
 unfold CF at h
 exact bR nB ab9 h (.bd λx1 q1=>wT (gG (d+1) q1)<|.bd λx2 q2=>wT (Ph (d+0) q2)<|.st none<|.bd λx5 q5=>Jn [2,3,8,9] [none,none,none,none] [] [] (QO (d+0) q5)<|.br 29 (λ_=>.bd λx6 q6=>wT (J9 (d+0) q6)<|.st none<|.st none<|Fn Fo [] none) λ_=>.st none<|Fn Fo [] none)
def Du(bF:List UInt8)(n:Int):Option (List UInt8) :=
 cond (decide ((bF.length:Int)>n)) ((Ip bF 0 n).bind λ(x1:List UInt8)=>some x1) (some bF)
def Ib(bF:List UInt8)(n:Int)(r:List UInt8):AV×WH:=((.str r),[])
theorem Mg(d:Nat){bF:List UInt8}{n:Int}{r:List UInt8}(h:Du bF n=some r):Spec (aY bA (d+1)) 98 [(.str bF),(.int .i64 n)] [] (Ib bF n r).1 (Ib bF n r).2:=by
 unfold Du at h
 exact bR nB acF h (.br 8 (λ_=>.bd λx1 q1=>.v 11 (.str x1)<|.ob (U3 q1:wP (.lD (.c (.str bF)) none (some (.c (.int .i64 n))))=some (.str x1))<|Fn Fo [] none) λ_=>Fn Fo [] none)
abbrev Nv(x1:Int)(n:Int):Fast×WH:=([(0,(.int .i64 n)),(4,(.int .i64 x1))],[])
def KO(x1:Int)(n:Int):Bool→Ex×Fast×WH:=λe=>(.normal,[(0,(.int .i64 n)),(4,(.int .i64 x1)),(5,(.bool e))],[])
def Af(x1:Int)(n:Int):Option (Bool) :=
 cond (x1==0) (some true) (cond (x1==1) (some true) (some (x1==2)))
theorem Pm(d:Nat){x1:Int}{n:Int}{r:Bool}(h:Af x1 n=some r):fA (bM (aY bA (d+0)) KK 35 JX) 0 (Nv x1 n) (KO x1 n r):=by
 unfold Af at h
 exact dL nB KL h (.br 5 (λ_=>E0 [0,4,5]) λ_=>.br 5 (λ_=>E0 [0,4,5]) λ_=>E0 [0,4,5])
def EH(n:Int):Option (Int) :=
 (dR n 7).bind λ(x1:Int)=>(Af x1 n).bind λ(x2:Bool)=>cond x2 ((dR (IntKind.i64.wrap (Int.tdiv n 7)) 40).bind λ(x3:Int)=>some x3) (cond (x1==3) ((dR (IntKind.i64.wrap (Int.tdiv n 7)) 63).bind λ(x4:Int)=>(U2 .i64 1 (IntKind.u64.wrap x4)).bind λ(x5:Int)=>(dR (IntKind.i64.wrap (Int.tdiv n 441)) 3).bind λ(x6:Int)=>some (IntKind.i64.wrap (x5-x6))) (cond (x1==4) ((dR (IntKind.i64.wrap (Int.tdiv n 7)) 3).bind λ(x7:Int)=>some (IntKind.i64.wrap (4611686018427387903-x7))) (cond (x1==5) ((dR (IntKind.i64.wrap (Int.tdiv n 7)) 1000).bind λ(x8:Int)=>some x8) (some n))))
def J_(n:Int)(r:Int):AV×WH:=((.int .i64 r),[])
theorem Ka(d:Nat){n:Int}{r:Int}(h:EH n=some r):Spec (aY bA (d+2)) 63 [(.int .i64 n)] [] (J_ n r).1 (J_ n r).2:=by
 unfold EH at h
 exact bR nB acs h (.bd λx1 q1=>wT (gG (d+0) q1)<|.bd λx2 q2=>Jn [0,4] [none,none] [] [] (Pm (d+1) q2)<|.br 5 (λ_=>.bd λx3 q3=>wT (gG (d+0) q3)<|Fn Fo [] none) λ_=>.br 12 (λ_=>.bd λx4 q4=>wT (gG (d+0) q4)<|.bd λx5 q5=>.v 18 (.int .i64 x5)<|.ob (aay q5:Ij .shl (.int .i64 1) (.int .u64 (IntKind.u64.wrap x4))=some (.int .i64 x5))<|.bd λx6 q6=>wT (gG (d+0) q6)<|Fn Fo [] none) λ_=>.br 23 (λ_=>.bd λx7 q7=>wT (gG (d+0) q7)<|Fn Fo [] none) λ_=>.br 29 (λ_=>.bd λx8 q8=>wT (gG (d+0) q8)<|Fn Fo [] none) λ_=>Fn Fo [] none)
def CG(bN:bK):Option (dH) :=
 (dR bN.Client 4).bind λ(x1:Int)=>(dR bN.Seq 9).bind λ(x2:Int)=>(CF bN.Kind bN.Key bN.Value bN.Old).bind λ(x3:bG)=>(dR bN.Ir 16).bind λ(x4:Int)=>cond (x4==10) ((Du bN.Text 12).bind λ(x5:List UInt8)=>some (⟨x1,(IntKind.i64.wrap (1+x2)),(⟨x3.Kind,x5,x3.Value,x3.Old⟩:bG)⟩:dH)) (cond (x4==11) ((Du bN.Text 20).bind λ(x6:List UInt8)=>some (⟨x1,(IntKind.i64.wrap (1+x2)),(⟨x3.Kind,x3.Key,x6,x3.Old⟩:bG)⟩:dH)) (cond (x4==12) ((dR (IntKind.i64.wrap (Int.tdiv bN.Ir 16)) 8).bind λ(x7:Int)=>some (⟨x1,(IntKind.i64.wrap (1+x2)),(⟨(IntKind.i64.wrap (x7-1)),x3.Key,x3.Value,x3.Old⟩:bG)⟩:dH)) (cond (x4==13) ((dR (IntKind.i64.wrap (Int.tdiv bN.Ir 16)) 9).bind λ(x8:Int)=>some (⟨(IntKind.i64.wrap (x8-2)),(IntKind.i64.wrap (1+x2)),x3⟩:dH)) (cond (x4==14) ((EH (IntKind.i64.wrap (Int.tdiv bN.Ir 16))).bind λ(x9:Int)=>some (⟨x1,x9,x3⟩:dH)) (cond (x4==15) (some (⟨0,0,(⟨0,([]:List UInt8),([]:List UInt8),([]:List UInt8)⟩:bG)⟩:dH)) (some (⟨x1,(IntKind.i64.wrap (1+x2)),x3⟩:dH)))))))
def Kc(bN:bK)(r:dH):AV×WH:=((.agg (ny r)),[])
theorem Pn(d:Nat){bN:bK}{r:dH}(h:CG bN=some r):Spec (aY bA (d+4)) 61 [(.agg (xO bN))] [] (Kc bN r).1 (Kc bN r).2:=by
 unfold CG at h
 exact bR nB acr h (.bd λx1 q1=>wT (gG (d+2) q1)<|.bd λx2 q2=>wT (gG (d+2) q2)<|.bd λx3 q3=>wT (Zq (d+0) q3)<|.st none<|.bd λx4 q4=>wT (gG (d+2) q4)<|.br 24 (λ_=>.bd λx5 q5=>wT (Mg (d+2) q5)<|.st none<|.st none<|Fn Fo [] none) λ_=>.br 31 (λ_=>.bd λx6 q6=>wT (Mg (d+2) q6)<|.st none<|.st none<|Fn Fo [] none) λ_=>.br 38 (λ_=>.bd λx7 q7=>wT (gG (d+2) q7)<|.st none<|.st none<|Fn Fo [] none) λ_=>.br 47 (λ_=>.bd λx8 q8=>wT (gG (d+2) q8)<|.st none<|.st none<|Fn Fo [] none) λ_=>.br 55 (λ_=>.bd λx9 q9=>wT (Ka (d+1) q9)<|.st none<|.st none<|Fn Fo [] none) λ_=>.br 62 (λ_=>.st none<|.st none<|Fn Fo [] none) λ_=>.st none<|Fn Fo [] none)
def vC(p_r:dH):Option (Bool) :=
 cond (decide (p_r.Client≥0)) (cond (decide (p_r.Client<4)) (cond (decide (p_r.Seq≥1)) (cond (decide (p_r.Seq≤4611686018427387903)) ((ru p_r.Op).bind λ(x1:Bool)=>some x1) (some false)) (some false)) (some false)) (some false)
def Bu(p_r:dH)(r:Bool):AV×WH:=((.bool r),[])
theorem KP(d:Nat){p_r:dH}{r:Bool}(h:vC p_r=some r):Spec (aY bA (d+2)) 116 [(.agg (ny p_r))] [] (Bu p_r r).1 (Bu p_r r).2:=by
 unfold vC at h
 exact bR nB abF h (.br 6 (λ_=>.br 11 (λ_=>.br 16 (λ_=>.br 21 (λ_=>.bd λx1 q1=>wT (Ba (d+0) q1)<|Fn Fo [] none) λ_=>Fn Fo [] none) λ_=>Fn Fo [] none) λ_=>Fn Fo [] none) λ_=>Fn Fo [] none)
def jc(bF:aX)(client:Int)(s3:Int):List AV×WH:=([(.ptr (some (0,1))),(.int .i64 client),(.ptr (some (1,0))),(.int .i64 s3)],[(some (.cells (bS bF) false false)),(some (.cells (bD (⟨0,0,(⟨0,([]:List UInt8)⟩:aH)⟩:aA)) false false))])
def kV(bF:aX)(client:Int):aA⊕Unit→Ex×Fast×WH:=fun
 |.inl e=>(.ret,[(4,(.ptr (some (1,0)))),(5,(.bool true))],[(some (.cells (bS bF) false false)),(some (.cells (bD e) false false))])
 |.inr e=>((.exit 0),[(4,(.ptr (some (1,0))))],[(some (.cells (bS bF) false false)),(some (.cells (bD (⟨0,0,(⟨0,([]:List UInt8)⟩:aH)⟩:aA)) false false))])
abbrev zH(bF:aX)(client:Int):=g_ [0,1,4,6] (jc bF client) (kV bF client)
def iq(bF:aX)(client:Int)(s3:Int):Option ((Int)⊕(aA⊕Unit)) :=
 cond (decide (s3<(bF.S_.L.length:Int))) ((dS bF.S_.L s3).bind λ(x4:aA)=>cond (x4.Client==client) ((dS bF.S_.L s3).bind λ(x5:aA)=>some (.inr (.inl x5))) (some (.inl (IntKind.i64.wrap (s3+1))))) (some (.inr (.inr ())))
def nD(bF:aX)(client:Int)(s3:Int):Option (aA⊕Unit):=gY (iq bF client) KK s3
theorem Ag(d:Nat){bF:aX}{client:Int}{s3:Int}{r:(Int)⊕(aA⊕Unit)}(h:iq bF client s3=some r):fA (bM (aY bA (d+0)) KK 34 FV) 1 (yt [0,1,4,6] (jc bF client s3)) (zH bF client r):=by
 unfold iq at h
 exact dL nB J3 h (.br 13 (λ_=>.bd λx4 q4=>Ix bQ 21 q4<|.br 25 (λ_=>.bd λx5 q5=>Ix bQ 31 q5<|.st none<|E0 [4,5]) λ_=>E0 [0,1,4,6]) λ_=>E0 [4])
theorem rQ(d:Nat){bF:aX}{client:Int}{s3:Int}{r:aA⊕Unit}(h:nD bF client s3=some r):fA (jW (bM (aY bA (d+0)) KK 34 FV) [0,1,4,6] KK) 1 (yt [0,1,4,6] (jc bF client s3)) (kV bF client r) :=
 iw (st:=jc bF client) (fin:=kV bF client) (step:=iq bF client) (λe=>by rcases e with e | e<;>(intro h;cases h)) (λs x h=>Ag d h) KK s3 r h
def iR(client:Int)(bF:aX):Option (aA×Bool) :=
 (nD bF client 0).bind λ(x6:aA⊕Unit)=>cond (nV x6) (some ((FR x6),true)) (some ((⟨0,0,(⟨0,([]:List UInt8)⟩:aH)⟩:aA),false))
def sU(client:Int)(bF:aX)(r:aA×Bool):AV×WH:=((.tuple [(.agg (bD r.1)),(.bool r.2)]),[(some (.cells (bS bF) false false))])
theorem vD(d:Nat){client:Int}{bF:aX}{r:aA×Bool}(h:iR client bF=some r):Spec (aY bA (d+1)) 117 [(.ptr (some (0,1))),(.int .i64 client)] [(some (.cells (bS bF) false false))] (sU client bF r).1 (sU client bF r).2:=by
 unfold iR at h
 exact bR nB Z8 h (.bd λx6 q6=>.ite (λGY=>Lp [none,none,none,none] [] [] (wC (il GY) (rQ (d+0) q6))<|Fn Fo [] none) λGY=>Lp [none,none,none,none] [] [] (wC (Iq GY) (rQ (d+0) q6))<|.st none<|Fn Fo [] none)
def kN(t:aX)(key:List UInt8)(s3:Int):List AV×WH:=([(.ptr (some (0,0))),(.str key),(.int .i64 s3)],[(some (.cells (bS t) false false))])
def mM(t:aX)(key:List UInt8):(Int×Bool)⊕Unit→Ex×Fast×WH:=fun
 |.inl e=>(.ret,[(4,(.int .i64 e.1)),(5,(.bool e.2))],[(some (.cells (bS t) false false))])
 |.inr e=>((.exit 0),[(0,(.ptr (some (0,0))))],[(some (.cells (bS t) false false))])
abbrev BJ(t:aX)(key:List UInt8):=g_ [0,1,6] (kN t key) (mM t key)
def lM(t:aX)(key:List UInt8)(s3:Int):Option ((Int)⊕((Int×Bool)⊕Unit)) :=
 cond (decide (s3<(t.T.L.length:Int))) ((dS t.T.L s3).bind λ(x4:aB)=>cond (!(Op.bytesLess x4.Key key)) ((dS t.T.L s3).bind λ(x5:aB)=>some (.inr (.inl (s3,(x5.Key==key))))) (some (.inl (IntKind.i64.wrap (s3+1))))) (some (.inr (.inr ())))
def xS(t:aX)(key:List UInt8)(s3:Int):Option ((Int×Bool)⊕Unit):=gY (lM t key) KK s3
theorem CJ(d:Nat){t:aX}{key:List UInt8}{s3:Int}{r:(Int)⊕((Int×Bool)⊕Unit)}(h:lM t key s3=some r):fA (bM (aY bA (d+0)) KK 42 FY) 1 (yt [0,1,6] (kN t key s3)) (BJ t key r):=by
 unfold lM at h
 exact dL nB J6 h (.br 13 (λ_=>.bd λx4 q4=>Ix aR 21 q4<|.br 25 (λ_=>.bd λx5 q5=>Ix aR 32 q5<|E0 [4,5]) λ_=>E0 [0,1,6]) λ_=>E0 [0])
theorem vE(d:Nat){t:aX}{key:List UInt8}{s3:Int}{r:(Int×Bool)⊕Unit}(h:xS t key s3=some r):fA (jW (bM (aY bA (d+0)) KK 42 FY) [0,1,6] KK) 1 (yt [0,1,6] (kN t key s3)) (mM t key r) :=
 iw (st:=kN t key) (fin:=mM t key) (step:=lM t key) (λe=>by rcases e with e | e<;>(intro h;cases h)) (λs x h=>CJ d h) KK s3 r h
def qP(key:List UInt8)(t:aX):Option (Int×Bool) :=
 (xS t key 0).bind λ(x6:(Int×Bool)⊕Unit)=>cond (nV x6) (some ((FR x6).1,(FR x6).2)) (some ((t.T.L.length:Int),false))
def wE(key:List UInt8)(t:aX)(r:Int×Bool):AV×WH:=((.tuple [(.int .i64 r.1),(.bool r.2)]),[(some (.cells (bS t) false false))])
theorem F5(d:Nat){key:List UInt8}{t:aX}{r:Int×Bool}(h:qP key t=some r):Spec (aY bA (d+1)) 129 [(.ptr (some (0,0))),(.str key)] [(some (.cells (bS t) false false))] (wE key t r).1 (wE key t r).2:=by
 unfold qP at h
 exact bR nB aac h (.bd λx6 q6=>.ite (λGY=>Lp [none,none,none] [] [] (wC (il GY) (vE (d+0) q6))<|Fn Fo [] none) λGY=>Lp [none,none,none] [] [] (wC (Iq GY) (vE (d+0) q6))<|Fn Fo [] none)
abbrev DL(x2:Int×Bool)(t:aX)(o:bG):Fast×WH:=([(0,(.ptr (some (0,0)))),(3,(.ptr (some (1,0)))),(4,(.ptr (some (2,0)))),(5,(.int .i64 x2.1)),(6,(.bool x2.2))],[(some (.cells (bS t) false false)),(some (.cells (dU o) false false)),(some (.cells (cu (⟨0,([]:List UInt8)⟩:aH)) false false))])
def CK(x2:Int×Bool)(t:aX)(o:bG):Unit⊕Unit→Ex×Fast×WH:=fun
 |.inl e=>(.ret,[(4,(.ptr (some (1,0))))],[(some (.cells (bS t) false false)),(some (.cells (cu (⟨5,([]:List UInt8)⟩:aH)) false false))])
 |.inr e=>(.normal,[(0,(.ptr (some (0,0)))),(3,(.ptr (some (1,0)))),(4,(.ptr (some (2,0)))),(5,(.int .i64 x2.1)),(6,(.bool x2.2))],[(some (.cells (bS t) false false)),(some (.cells (dU o) false false)),(some (.cells (cu (⟨0,([]:List UInt8)⟩:aH)) false false))])
def pQ(x2:Int×Bool)(t:aX)(o:bG):Option (Unit⊕Unit) :=
 cond (!x2.2) (cond (decide ((t.T.L.length:Int)≥8)) (some (.inl ())) (some (.inr ()))) (some (.inr ()))
theorem xU(d:Nat){x2:Int×Bool}{t:aX}{o:bG}{r:Unit⊕Unit}(h:pQ x2 t o=some r):fA (bM (aY bA (d+0)) KK 147 sM) 1 (DL x2 t o) (CK x2 t o r):=by
 unfold pQ at h
 exact dL nB vw h (.br 40 (λ_=>.br 47 (λ_=>.st none<|E0 [4]) λ_=>E0 [0,3,4,5,6]) λ_=>E0 [0,3,4,5,6])
abbrev DN(x2:Int×Bool)(x6:List aB)(o:bG)(t:aX):Fast×WH:=([(0,(.ptr (some (0,0)))),(4,(.ptr (some (1,0)))),(5,(.int .i64 x2.1)),(6,(.bool x2.2)),(7,(.acc 2 0 2 (x6++[(⟨o.Key,o.Value⟩:aB)]).length true))],[(some (.cells (bS t) false false)),(some (.cells (cu (⟨0,([]:List UInt8)⟩:aH)) false false)),(some (.cells (aO (x6++[(⟨o.Key,o.Value⟩:aB)])) false true))])
def CO(x2:Int×Bool)(x6:List aB)(o:bG)(t:aX):Int→Ex×Fast×WH:=λe=>(.normal,[(0,(.ptr (some (0,0)))),(4,(.ptr (some (1,0)))),(5,(.int .i64 e)),(7,(.acc 2 0 2 (x6++[(⟨o.Key,o.Value⟩:aB)]).length true))],[(some (.cells (bS t) false false)),(some (.cells (cu (⟨0,([]:List UInt8)⟩:aH)) false false)),(some (.cells (aO (x6++[(⟨o.Key,o.Value⟩:aB)])) false true))])
def pR(x2:Int×Bool)(x6:List aB)(o:bG)(t:aX):Option (Int) :=
 cond x2.2 (some (IntKind.i64.wrap (x2.1+1))) (some x2.1)
theorem EI(d:Nat){x2:Int×Bool}{x6:List aB}{o:bG}{t:aX}{r:Int}(h:pR x2 x6 o t=some r):fA (bM (aY bA (d+0)) KK 147 oz) 1 (DN x2 x6 o t) (CO x2 x6 o t r):=by
 unfold pR at h
 exact dL nB rG h (.br 65 (λ_=>E1 [0,4,5,7] [none,none,none,none] [] [.undef,.undef,.undef,.slice none 2 0 0 true]) λ_=>E1 [0,4,5,7] [none,none,none,none] [] [.undef,.undef,.undef,.slice none 2 0 0 true])
def qI(o:bG)(t:aX):Option (aH×aX) :=
 (ru o).bind λ(x1:Bool)=>cond (!x1) (some ((⟨1,([]:List UInt8)⟩:aH),t)) ((qP o.Key t).bind λ(x2:Int×Bool)=>cond (o.Kind==1) (cond (!x2.2) (some ((⟨4,([]:List UInt8)⟩:aH),t)) ((dS t.T.L x2.1).bind λ(x3:aB)=>some ((⟨0,x3.Value⟩:aH),t))) (cond (o.Kind==2) ((pQ x2 t o).bind λ(x4:Unit⊕Unit)=>cond (nV x4) (some ((⟨5,([]:List UInt8)⟩:aH),t)) ((Ip t.T.L 0 x2.1).bind λ(x6:List aB)=>gd (fu 32 x6.length) (gd (fu 32 (x6++[(⟨o.Key,o.Value⟩:aB)]).length) ((pR x2 x6 o t).bind λ(x9:Int)=>(Ip t.T.L x9 t.T.L.length).bind λ(x10:List aB)=>gd (fu 32 ((x6++[(⟨o.Key,o.Value⟩:aB)])++x10).length) (some ((⟨0,([]:List UInt8)⟩:aH),(⟨(⟨((x6++[(⟨o.Key,o.Value⟩:aB)])++x10)⟩:ou),t.S_,t.ID,t.Epoch⟩:aX))))))) (cond (o.Kind==3) (cond (!x2.2) (some ((⟨4,([]:List UInt8)⟩:aH),t)) ((Ip t.T.L 0 x2.1).bind λ(Iy:List aB)=>gd (fu 32 Iy.length) ((Ip t.T.L (IntKind.i64.wrap (x2.1+1)) t.T.L.length).bind λ(GZ:List aB)=>gd (fu 32 (Iy++GZ).length) (some ((⟨0,([]:List UInt8)⟩:aH),(⟨(⟨(Iy++GZ)⟩:ou),t.S_,t.ID,t.Epoch⟩:aX)))))) (cond (!x2.2) (some ((⟨4,([]:List UInt8)⟩:aH),t)) ((dS t.T.L x2.1).bind λ(TG:aB)=>cond (!(TG.Value==o.Old)) ((dS t.T.L x2.1).bind λ(TH:aB)=>some ((⟨6,TH.Value⟩:aH),t)) (gd (fu 32 t.T.L.length) ((dS t.T.L x2.1).bind λ(EZ:aB)=>some ((⟨0,([]:List UInt8)⟩:aH),(⟨(⟨(t.T.L.set x2.1.toNat (⟨EZ.Key,o.Value⟩:aB))⟩:ou),t.S_,t.ID,t.Epoch⟩:aX)))))))))
def jv(o:bG)(t:aX)(r:aH×aX):AV×WH:=((.agg (cu r.1)),[(some (.cells (bS r.2) false false))])
theorem IG(d:Nat){o:bG}{t:aX}{r:aH×aX}(h:qI o t=some r):Spec (aY bA (d+2)) 118 [(.ptr (some (0,0))),(.agg (dU o))] [(some (.cells (bS t) false false))] (jv o t r).1 (jv o t r).2:=by
 unfold qI at h
 exact bR nB Z9 h (.bd λx1 q1=>wT (Ba (d+0) q1)<|.br 11 (λ_=>.st none<|Fn Fo [] Fo) λ_=>.bd λx2 q2=>Cl [] Fo [] (F5 (d+0) q2)<|.br 22 (λ_=>.br 25 (λ_=>.st none<|Fn Fo [] Fo) λ_=>.bd λx3 q3=>Ix aR 32 q3<|.st none<|Fn Fo [] Fo) λ_=>.br 36 (λ_=>.bd λx4 q4=>.ite (λhb5=>Jn [0,3,4,5,6] [none,none,none,none,none] [] [] (wC (il hb5) (xU (d+1) q4))<|Fn Fo [] Fo) λhb5=>Jn [0,3,4,5,6] [none,none,none,none,none] [] [] (wC (Iq hb5) (xU (d+1) q4))<|.bd λx6 q6=>Si aR 55 q6<|.gd λq7=>ZX aR 56 q7<|.gd λq8=>Ap aR 64 q8<|.bd λx9 q9=>Jn [0,4,5,6,7] [none,none,none,none,none] [] [.undef,.undef,.undef,.undef,.slice none 2 0 0 true] (EI (d+1) q9)<|.bd λx10 W_=>Sl aR 75 W_<|.gd λWy=>Ap aR 76 Wy<|.st none<|.st none<|Fn Fo [] Fo) λ_=>.br 80 (λ_=>.br 83 (λ_=>.st none<|Fn Fo [] Fo) λ_=>.bd λIy QM=>Si aR 92 QM<|.gd λZp=>ZX aR 93 Zp<|.er<|.ob (rfl:@Eq (Option AV) (some (bP t.T.L)) (some (bP t.T.L)))<|.bd λGZ Wz=>Sl aR 100 Wz<|.gd λXa=>Ap aR 101 Xa<|.st none<|.st none<|Fn Fo [] Fo) λ_=>.br 105 (λ_=>.st none<|Fn Fo [] Fo) λ_=>.bd λTG q16=>Ix aR 115 q16<|.br 109 (λ_=>.bd λTH q17=>Ix aR 126 q17<|.st none<|Fn Fo [] Fo) λ_=>.gd λq18=>ZX aR 135 q18<|.bd λEZ TI=>Ia aR 140 4 TI<|.st (some (aO (t.T.L.set x2.1.toNat (⟨EZ.Key,o.Value⟩:aB))))<|.ob (zu (o:=1) aR TI rfl:H6 (aO t.T.L) (0+x2.1.toNat*2+1) [(.str o.Value)]=some (aO (t.T.L.set x2.1.toNat (⟨EZ.Key,o.Value⟩:aB))))<|.st none<|.st none<|.Bo (.fin (some false) [] (some false)) _ (λr=>@Eq AV (.agg (cu (⟨0,([]:List UInt8)⟩:aH))) (jv o t r).1∧@Eq WH [(some (.cells [(.list 2 t.T.L.length (aO (t.T.L.set x2.1.toNat (⟨EZ.Key,o.Value⟩:aB))) false),(dx t.S_.L),(.int .i64 t.ID),(.int .i64 t.Epoch)] false false))] (jv o t r).2) (by show _∧_;(try rw[show AV.list 2 t.T.L.length (aO (t.T.L.set x2.1.toNat (⟨EZ.Key,o.Value⟩:aB))) false=bP (t.T.L.set x2.1.toNat (⟨EZ.Key,o.Value⟩:aB))from by simp only[bP,bO]]);refine⟨?_, ?_⟩<;>first | rfl |(simp only[jv,bO,aJ,List.length_replicate,bZ,fJ,aV,aS,Nat.add_zero,Nat.zero_add];done) | simp[jv]))
abbrev zI(bN:aA)(x1:aA×Bool)(bF:aX):Fast×WH:=([(0,(.ptr (some (0,1)))),(3,(.ptr (some (1,0)))),(5,(.ptr (some (2,0))))],[(some (.cells (bS bF) false false)),(some (.cells (bD bN) false false)),(some (.cells (bD x1.1) false false))])
def yC(bN:aA)(x1:aA×Bool)(bF:aX):Unit⊕Unit→Ex×Fast×WH:=fun
 |.inl e=>(.ret,[(4,(.bool false))],[(some (.cells (bS bF) false false))])
 |.inr e=>(.normal,[(0,(.ptr (some (0,1)))),(3,(.ptr (some (1,0))))],[(some (.cells (bS bF) false false)),(some (.cells (bD bN) false false))])
def kP(bN:aA)(x1:aA×Bool)(bF:aX):Option (Unit⊕Unit) :=
 cond (decide (bN.Client<0)) (some (.inl ())) (cond (decide (bN.Client≥4)) (some (.inl ())) (cond (decide (bN.Seq<1)) (some (.inl ())) (cond (decide (bN.Seq≤x1.1.Seq)) (some (.inl ())) (some (.inr ())))))
theorem rR(d:Nat){bN:aA}{x1:aA×Bool}{bF:aX}{r:Unit⊕Unit}(h:kP bN x1 bF=some r):fA (bM (aY bA (d+0)) KK 96 GV) 1 (zI bN x1 bF) (yC bN x1 bF r):=by
 unfold kP at h
 exact dL nB FW h (.br 20 (λ_=>E0 [4]) λ_=>.br 25 (λ_=>E0 [4]) λ_=>.br 30 (λ_=>E0 [4]) λ_=>.br 36 (λ_=>E0 [4]) λ_=>E0 [0,3])
abbrev zJ(iO:Bool×Int×List aA)(bF:aX)(bN:aA):Fast×WH:=([(0,(.ptr (some (0,1)))),(3,(.ptr (some (1,0)))),(7,(.acc 2 0 4 iO.2.2.length true)),(8,(.bool iO.1)),(9,(.int .i64 iO.2.1))],[(some (.cells (bS bF) false false)),(some (.cells (bD bN) false false)),(some (.cells (bB iO.2.2) false true))])
def yD(iO:Bool×Int×List aA)(bF:aX)(bN:aA):Bool→Ex×Fast×WH:=λe=>(.normal,[(0,(.ptr (some (0,1)))),(3,(.ptr (some (1,0)))),(7,(.acc 2 0 4 iO.2.2.length true)),(8,(.bool iO.1)),(9,(.int .i64 iO.2.1)),(60,(.bool e))],[(some (.cells (bS bF) false false)),(some (.cells (bD bN) false false)),(some (.cells (bB iO.2.2) false true))])
def nE(iO:Bool×Int×List aA)(bF:aX)(bN:aA):Option (Bool) :=
 cond (!iO.1) ((dS bF.S_.L iO.2.1).bind λ(EZ:aA)=>some (decide (EZ.Client≥bN.Client))) (some false)
theorem Ah(d:Nat){iO:Bool×Int×List aA}{bF:aX}{bN:aA}{r:Bool}(h:nE iO bF bN=some r):fA (bM (aY bA (d+0)) KK 96 oF) 1 (zJ iO bF bN) (yD iO bF bN r):=by
 unfold nE at h
 exact dL nB rJ h (.br 48 (λ_=>.bd λEZ TI=>Ix bQ 54 TI<|E1 [0,3,7,8,9,60] [none,none,none,none,none,none] [] [.undef,.undef,.slice none 4 0 0 true,.undef,.undef,.undef]) λ_=>E1 [0,3,7,8,9,60] [none,none,none,none,none,none] [] [.undef,.undef,.slice none 4 0 0 true,.undef,.undef,.undef])
abbrev zK(iO:Bool×Int×List aA)(bF:aX)(bN:aA):Fast×WH:=([(0,(.ptr (some (0,1)))),(3,(.ptr (some (1,0)))),(7,(.acc 2 0 4 iO.2.2.length true)),(8,(.bool iO.1)),(9,(.int .i64 iO.2.1))],[(some (.cells (bS bF) false false)),(some (.cells (bD bN) false false)),(some (.cells (bB iO.2.2) false true))])
def yE(iO:Bool×Int×List aA)(bF:aX)(bN:aA):(Bool×List aA)→Ex×Fast×WH:=λe=>(.normal,[(0,(.ptr (some (0,1)))),(3,(.ptr (some (1,0)))),(7,(.acc 2 0 4 e.2.length true)),(8,(.bool e.1)),(9,(.int .i64 iO.2.1))],[(some (.cells (bS bF) false false)),(some (.cells (bD bN) false false)),(some (.cells (bB e.2) false true))])
def nG(iO:Bool×Int×List aA)(bF:aX)(bN:aA):Option ((Bool×List aA)) :=
 (nE iO bF bN).bind λ(x20:Bool)=>cond x20 (gd (fu 40 (iO.2.2++[bN]).length) (some (true,(iO.2.2++[bN])))) (some (iO.1,iO.2.2))
theorem Ai(d:Nat){iO:Bool×Int×List aA}{bF:aX}{bN:aA}{r:(Bool×List aA)}(h:nG iO bF bN=some r):fA (bM (aY bA (d+0)) KK 96 ql) 1 (zK iO bF bN) (yE iO bF bN r):=by
 unfold nG at h
 exact dL nB sN h (.bd λx20 q20=>Jn [0,3,7,8,9] [none,none,none,none,none] [] [.undef,.undef,.slice none 4 0 0 true,.undef,.undef] (Ah (d+0) q20)<|.br 60 (λ_=>.gd λq21=>Ap bQ 64 q21<|E1 [0,3,7,8,9] [none,none,none,none,none] [] [.undef,.undef,.slice none 4 0 0 true,.undef,.undef]) λ_=>E1 [0,3,7,8,9] [none,none,none,none,none] [] [.undef,.undef,.slice none 4 0 0 true,.undef,.undef])
def jd(bF:aX)(bN:aA)(iO:Bool×Int×List aA):List AV×WH:=([(.ptr (some (0,1))),(.ptr (some (1,0))),(.acc 2 0 4 iO.2.2.length true),(.bool iO.1),(.int .i64 iO.2.1)],[(some (.cells (bS bF) false false)),(some (.cells (bD bN) false false)),(some (.cells (bB iO.2.2) false true))])
def kW(bF:aX)(bN:aA):(Bool×List aA)→Ex×Fast×WH:=λe=>((.exit 0),[(0,(.ptr (some (0,1)))),(3,(.ptr (some (1,0)))),(7,(.acc 2 0 4 e.2.length true)),(8,(.bool e.1))],[(some (.cells (bS bF) false false)),(some (.cells (bD bN) false false)),(some (.cells (bB e.2) false true))])
abbrev zL(bF:aX)(bN:aA):=g_ [0,3,7,8,9] (jd bF bN) (kW bF bN)
def jw(bF:aX)(bN:aA)(iO:Bool×Int×List aA):Option ((Bool×Int×List aA)⊕((Bool×List aA))) :=
 cond (decide (iO.2.1<(bF.S_.L.length:Int))) ((nG iO bF bN).bind λ(Pg:(Bool×List aA))=>(dS bF.S_.L iO.2.1).bind λ(x23:aA)=>cond (x23.Client != bN.Client) ((dS bF.S_.L iO.2.1).bind λ(x24:aA)=>gd (fu 40 (Pg.2++[x24]).length) (some (.inl (Pg.1,(IntKind.i64.wrap (iO.2.1+1)),(Pg.2++[x24]))))) (some (.inl (Pg.1,(IntKind.i64.wrap (iO.2.1+1)),Pg.2)))) (some (.inr (iO.1,iO.2.2)))
def nH(bF:aX)(bN:aA)(iO:Bool×Int×List aA):Option ((Bool×List aA)):=gY (jw bF bN) KK iO
theorem Aj(d:Nat){bF:aX}{bN:aA}{iO:Bool×Int×List aA}{r:(Bool×Int×List aA)⊕((Bool×List aA))}(h:jw bF bN iO=some r):fA (bM (aY bA (d+0)) KK 96 FX) 1 (yt [0,3,7,8,9] (jd bF bN iO)) (zL bF bN r):=by
 unfold jw at h
 exact dL nB J5 h (.br 43 (λ_=>.sk<|.bd λPg q22=>Jn [0,3,7,8,9] [none,none,none,none,none] [] [.undef,.undef,.slice none 4 0 0 true,.undef,.undef] (Ai (d+0) q22)<|.bd λx23 q23=>Ix bQ 70 q23<|.br 75 (λ_=>.bd λx24 q24=>Ix bQ 82 q24<|.gd λq25=>Ap bQ 85 q25<|E1 [0,3,7,8,9] [none,none,none,none,none] [] [.undef,.undef,.slice none 4 0 0 true,.undef,.undef]) λ_=>E1 [0,3,7,8,9] [none,none,none,none,none] [] [.undef,.undef,.slice none 4 0 0 true,.undef,.undef]) λ_=>E1 [0,3,7,8] [none,none,none,none] [] [.undef,.undef,.slice none 4 0 0 true,.undef])
theorem Ak(d:Nat){bF:aX}{bN:aA}{iO:Bool×Int×List aA}{r:(Bool×List aA)}(h:nH bF bN iO=some r):fA (jW (bM (aY bA (d+0)) KK 96 FX) [0,3,7,8,9] KK) 1 (yt [0,3,7,8,9] (jd bF bN iO)) (kW bF bN r) :=
 iw (st:=jd bF bN) (fin:=kW bF bN) (step:=jw bF bN) (λe=>by(intro h;cases h)) (λs x h=>Aj d h) KK iO r h
abbrev zM(yX:(Bool×List aA))(bN:aA)(bF:aX):Fast×WH:=([(0,(.ptr (some (0,1)))),(3,(.ptr (some (1,0)))),(7,(.acc 2 0 4 yX.2.length true)),(8,(.bool yX.1))],[(some (.cells (bS bF) false false)),(some (.cells (bD bN) false false)),(some (.cells (bB yX.2) false true))])
def yF(yX:(Bool×List aA))(bN:aA)(bF:aX):(List aA)→Ex×Fast×WH:=λe=>(.normal,[(0,(.ptr (some (0,1)))),(7,(.acc 1 0 4 e.length true))],[(some (.cells (bS bF) false false)),(some (.cells (bB e) false true))])
def kQ(yX:(Bool×List aA))(bN:aA)(bF:aX):Option ((List aA)) :=
 cond (!yX.1) (gd (fu 40 (yX.2++[bN]).length) (some (yX.2++[bN]))) (some yX.2)
theorem Al(d:Nat){yX:(Bool×List aA)}{bN:aA}{bF:aX}{r:(List aA)}(h:kQ yX bN bF=some r):fA (bM (aY bA (d+0)) KK 96 zx) 1 (zM yX bN bF) (yF yX bN bF r):=by
 unfold kQ at h
 exact dL nB zZ h (.br 87 (λ_=>.gd λq27=>Ap bQ 91 q27<|E1 [0,7] [none,none] [] [.undef,.slice none 4 0 0 true]) λ_=>E1 [0,7] [none,none] [] [.undef,.slice none 4 0 0 true])
def iT(bN:aA)(bF:aX):Option (Bool×aX) :=
 (iR bN.Client bF).bind λ(x1:aA×Bool)=>(kP bN x1 bF).bind λ(x2:Unit⊕Unit)=>cond (nV x2) (some (false,bF)) ((nH bF bN (false,0,[])).bind λ(yX:(Bool×List aA))=>(kQ yX bN bF).bind λ(x28:(List aA))=>some (true,(⟨bF.T,(⟨x28⟩:lK),bF.ID,bF.Epoch⟩:aX)))
def sV(bN:aA)(bF:aX)(r:Bool×aX):AV×WH:=((.bool r.1),[(some (.cells (bS r.2) false false))])
theorem CP(d:Nat){bN:aA}{bF:aX}{r:Bool×aX}(h:iT bN bF=some r):Spec (aY bA (d+2)) 119 [(.ptr (some (0,1))),(.agg (bD bN))] [(some (.cells (bS bF) false false))] (sV bN bF r).1 (sV bN bF r).2:=by
 unfold iT at h
 exact bR nB Z_ h (.bd λx1 q1=>Cl [] Fo [] (vD (d+0) q1)<|.st none<|.bd λx2 q2=>.ite (λhb3=>Jn [0,3,5] [none,none,none] [] [] (wC (il hb3) (rR (d+1) q2))<|Fn Fo [] Fo) λhb3=>Jn [0,3,5] [none,none,none] [] [] (wC (Iq hb3) (rR (d+1) q2))<|.z 7 [.slice none 4 0 0 true]<|.bd λyX q26=>Lp [none,none,Tw,none,none] [] [.undef,.undef,.slice none 4 0 0 true,.undef,.undef] (Ak (d+1) q26)<|.bd λx28 q28=>Jn [0,3,7,8] [none,none,none,none] [] [.undef,.undef,.slice none 4 0 0 true,.undef] (Al (d+1) q28)<|.st none<|Fn Fo [] Fo)
def sW(p_r:dH)(bF:aX):Option (aH×Bool×aX) :=
 (vC p_r).bind λ(x1:Bool)=>cond (!x1) (some ((⟨1,([]:List UInt8)⟩:aH),false,bF)) ((iR p_r.Client bF).bind λ(x2:aA×Bool)=>cond (p_r.Seq==x2.1.Seq) (some (x2.1.Answer,false,bF)) (cond (decide (p_r.Seq<x2.1.Seq)) (some ((⟨9,([]:List UInt8)⟩:aH),false,bF)) ((qI p_r.Op bF).bind λ(x3:aH×aX)=>(iT (⟨p_r.Client,p_r.Seq,x3.1⟩:aA) x3.2).bind λ(x4:Bool×aX)=>some (x3.1,true,x4.2))))
def Am(p_r:dH)(bF:aX)(r:aH×Bool×aX):AV×WH:=((.tuple [(.agg (cu r.1)),(.bool r.2.1)]),[(some (.cells (bS r.2.2) false false))])
theorem Ke(d:Nat){p_r:dH}{bF:aX}{r:aH×Bool×aX}(h:sW p_r bF=some r):Spec (aY bA (d+3)) 89 [(.ptr (some (0,0))),(.agg (ny p_r))] [(some (.cells (bS bF) false false))] (Am p_r bF r).1 (Am p_r bF r).2:=by
 unfold sW at h
 exact bR nB acw h (.bd λx1 q1=>wT (KP (d+0) q1)<|.br 11 (λ_=>.st none<|Fn Fo [] none) λ_=>.bd λx2 q2=>Cl [] Fo [] (vD (d+1) q2)<|.st none<|.br 22 (λ_=>.st none<|Fn Fo [] none) λ_=>.br 30 (λ_=>.st none<|Fn Fo [] none) λ_=>.bd λx3 q3=>Cl [] Fo [] (IG (d+0) q3)<|.st none<|.bd λx4 q4=>Cl [] Fo [] (CP (d+0) q4)<|.st none<|Fn Fo [] none)
def CQ(bF:aX):Option (aT) :=
 gd (fu 32 bF.T.L.length) (gd (fu 40 bF.S_.L.length) (some (⟨bF.ID,bF.Epoch,bF.T.L,bF.S_.L⟩:aT)))
def xV(bF:aX)(r:aT):AV×WH:=((.agg (dw r)),[(some (.cells (bS bF) false false))])
theorem Tq(d:Nat){bF:aX}{r:aT}(h:CQ bF=some r):Spec (aY bA (d+1)) 90 [(.ptr (some (0,0)))] [(some (.cells (bS bF) false false))] (xV bF r).1 (xV bF r).2:=by
 unfold CQ at h
 exact bR nB abz h (.z 2 [.undef,.undef,.slice none 2 0 0 true,.slice none 4 0 0 true]<|.gd λq1=>ZX aR 17 q1<|.er<|.ob (rfl:@Eq (Option AV) (some (dx bF.S_.L)) (some (dx bF.S_.L)))<|.gd λq2=>ZX bQ 24 q2<|.st none<|Fn Fo [.agg [.undef,.undef,.slice none 2 0 0 true,.slice none 4 0 0 true]] none)
def mo(bF:aX):Option (Int×Int×List aB×List aA) :=
 gd (fu 32 bF.T.L.length) (gd (fu 40 bF.S_.L.length) (some (bF.ID,bF.Epoch,bF.T.L,bF.S_.L)))
def vF(bF:aX)(r:Int×Int×List aB×List aA):AV×WH:=((.agg [(.int .i64 r.1),(.int .i64 r.2.1),(.acc 1 0 2 r.2.2.1.length true),(.acc 2 0 4 r.2.2.2.length true)]),[(some (.cells (bS bF) false false)),(some (.cells (aO r.2.2.1) false true)),(some (.cells (bB r.2.2.2) false true))])
theorem EJ(d:Nat){bF:aX}{r:Int×Int×List aB×List aA}(h:mo bF=some r):Spec (aY bA (d+1)) 90 [(.ptr (some (0,0)))] [(some (.cells (bS bF) false false))] (vF bF r).1 (vF bF r).2:=by
 unfold mo at h
 exact bR nB abz h (.z 2 [.undef,.undef,.slice none 2 0 0 true,.slice none 4 0 0 true]<|.gd λq1=>ZX aR 17 q1<|.er<|.ob (rfl:@Eq (Option AV) (some (dx bF.S_.L)) (some (dx bF.S_.L)))<|.gd λq2=>ZX bQ 24 q2<|.st none<|Fn none [.agg [.undef,.undef,.slice none 2 0 0 true,.slice none 4 0 0 true]] none)
abbrev Kg(s10:Int×aX)(l:List bK)(j_:Int):Fast×WH:=([(2,(fE l)),(3,(.int .i64 j_)),(8,(.ptr (some (0,0)))),(9,(.ptr (some (1,0)))),(10,(.int .i64 s10.1))],[(some (.cells [(.int .i64 0),(.int .i64 0),(.slice none 2 0 0 true),(.slice none 4 0 0 true)] false false)),(some (.cells (bS s10.2) false false))])
def II(s10:Int×aX)(l:List bK)(j_:Int):Unit⊕Unit→Ex×Fast×WH:=fun
 |.inl e=>(.normal,[(2,(fE l)),(3,(.int .i64 j_)),(8,(.ptr (some (0,0)))),(9,(.ptr (some (1,0)))),(10,(.int .i64 s10.1))],[(some (.cells [(.int .i64 0),(.int .i64 0),(.slice none 2 0 0 true),(.slice none 4 0 0 true)] false false)),(some (.cells (bS s10.2) false false))])
 |.inr e=>((.exit 0),[(3,(.int .i64 j_)),(8,(.ptr (some (0,0)))),(9,(.ptr (some (1,0))))],[(some (.cells [(.int .i64 0),(.int .i64 0),(.slice none 2 0 0 true),(.slice none 4 0 0 true)] false false)),(some (.cells (bS s10.2) false false))])
def yZ(s10:Int×aX)(l:List bK)(j_:Int):Option (Unit⊕Unit) :=
 cond (decide (s10.1<(l.length:Int))) (cond (decide (s10.1<12)) (some (.inl ())) (some (.inr ()))) (some (.inr ()))
theorem El(d:Nat){s10:Int×aX}{l:List bK}{j_:Int}{r:Unit⊕Unit}(h:yZ s10 l j_=some r):fA (bM (aY bA (d+0)) KK 113 FU) 0 (Kg s10 l j_) (II s10 l j_ r):=by
 unfold yZ at h
 exact dL nB Iw h (.br 25 (λ_=>.br 28 (λ_=>E1 [2,3,8,9,10] [none,none,none,none,none] [] [.slice none 8 0 0 true,.undef,.undef,.undef,.undef]) λ_=>E0 [3,8,9]) λ_=>E0 [3,8,9])
def sZ(l:List bK)(j_:Int)(s10:Int×aX):List AV×WH:=([(fE l),(.int .i64 j_),(.ptr (some (0,0))),(.ptr (some (1,0))),(.int .i64 s10.1)],[(some (.cells [(.int .i64 0),(.int .i64 0),(.slice none 2 0 0 true),(.slice none 4 0 0 true)] false false)),(some (.cells (bS s10.2) false false))])
def vT(l:List bK)(j_:Int):aX→Ex×Fast×WH:=λe=>((.exit 0),[(3,(.int .i64 j_)),(8,(.ptr (some (0,0)))),(9,(.ptr (some (1,0))))],[(some (.cells [(.int .i64 0),(.int .i64 0),(.slice none 2 0 0 true),(.slice none 4 0 0 true)] false false)),(some (.cells (bS e) false false))])
abbrev Kh(l:List bK)(j_:Int):=g_ [2,3,8,9,10] (sZ l j_) (vT l j_)
def qJ(l:List bK)(j_:Int)(s10:Int×aX):Option ((Int×aX)⊕(aX)) :=
 (yZ s10 l j_).bind λ(Nr:Unit⊕Unit)=>cond (nV Nr) ((dS l s10.1).bind λ(Po:bK)=>(dR Po.Kind 3).bind λ(GZ:Int)=>(CG (⟨(IntKind.i64.wrap (1+GZ)),Po.Key,Po.Value,Po.Old,Po.Client,Po.Seq,0,Po.Text⟩:bK)).bind λ(x15:dH)=>(sW x15 s10.2).bind λ(TG:aH×Bool×aX)=>some (.inl ((IntKind.i64.wrap (s10.1+1)),TG.2.2))) (some (.inr s10.2))
def CS(l:List bK)(j_:Int)(s10:Int×aX):Option (aX):=gY (qJ l j_) KK s10
theorem KQ(d:Nat){l:List bK}{j_:Int}{s10:Int×aX}{r:(Int×aX)⊕(aX)}(h:qJ l j_ s10=some r):fA (bM (aY bA (d+4)) KK 113 Qx) 0 (yt [2,3,8,9,10] (sZ l j_ s10)) (Kh l j_ r):=by
 unfold qJ at h
 exact dL nB SX h (.bd λNr Wy=>.ite (λaaF=>Jn [2,3,8,9,10] [none,none,none,none,none] [] [.slice none 8 0 0 true,.undef,.undef,.undef,.undef] (wC (il aaF) (El (d+4) Wy))<|.bd λPo Zp=>Ix A_ 33 Zp<|.st none<|.st none<|.bd λGZ Wz=>wT (gG (d+3) Wz)<|.st none<|.bd λx15 Xa=>wT (Pn (d+0) Xa)<|.bd λTG q16=>Cl [] Fo [] (Ke (d+1) q16)<|E1 [2,3,8,9,10] [none,none,none,none,none] [] [.slice none 8 0 0 true,.undef,.undef,.undef,.undef]) λaaF=>Jn [2,3,8,9,10] [none,none,none,none,none] [] [.slice none 8 0 0 true,.undef,.undef,.undef,.undef] (wC (Iq aaF) (El (d+4) Wy))<|E0 [3,8,9])
theorem KR(d:Nat){l:List bK}{j_:Int}{s10:Int×aX}{r:aX}(h:CS l j_ s10=some r):fA (jW (bM (aY bA (d+4)) KK 113 Qx) [2,3,8,9,10] KK) 0 (yt [2,3,8,9,10] (sZ l j_ s10)) (vT l j_ r) :=
 iw (st:=sZ l j_) (fin:=vT l j_) (step:=qJ l j_) (λe=>by(intro h;cases h)) (λs x h=>KQ d h) KK s10 r h
def CU(k:Int)(epoch:Int)(l:List bK)(j_:Int):Option (aT) :=
 (dR k 6).bind λ(x1:Int)=>(dR epoch 6).bind λ(x2:Int)=>(sS (⟨x1,(IntKind.i64.wrap (1+x2)),[],[]⟩:aT)).bind λ(x3:aX)=>(CS l j_ (0,x3)).bind λ(TH:aX)=>(mo TH).bind λ(x18:Int×Int×List aB×List aA)=>(dR j_ 14).bind λ(EZ:Int)=>cond (EZ==8) ((EH (IntKind.i64.wrap (Int.tdiv j_ 14))).bind λ(x20:Int)=>some (⟨x20,x18.2.1,x18.2.2.1,x18.2.2.2⟩:aT)) (cond (EZ==9) ((EH (IntKind.i64.wrap (Int.tdiv j_ 14))).bind λ(x21:Int)=>some (⟨x18.1,(IntKind.i64.wrap (x21-1)),x18.2.2.1,x18.2.2.2⟩:aT)) (cond (EZ==10) ((Bb (IntKind.i64.wrap (Int.tdiv j_ 14))).bind λ(Pg:List UInt8)=>gd (fu 32 (x18.2.2.1++[(⟨Pg,[118]⟩:aB)]).length) (some (⟨x18.1,x18.2.1,(x18.2.2.1++[(⟨Pg,[118]⟩:aB)]),x18.2.2.2⟩:aT))) (cond (EZ==11) (cond (decide ((x18.2.2.2.length:Int)>0)) ((dR (IntKind.i64.wrap (Int.tdiv j_ 14)) 14).bind λ(x24:Int)=>(dS x18.2.2.2 0).bind λ(x25:aA)=>some (⟨x18.1,x18.2.1,x18.2.2.1,(x18.2.2.2.set (0:Int).toNat (⟨x25.Client,x25.Seq,(⟨(IntKind.i64.wrap (x24-1)),x25.Answer.Value⟩:aH)⟩:aA))⟩:aT)) (some (⟨x18.1,x18.2.1,x18.2.2.1,x18.2.2.2⟩:aT))) (cond (EZ==12) (cond (decide ((x18.2.2.1.length:Int)>1)) ((dS x18.2.2.1 0).bind λ(yX:aB)=>(dS x18.2.2.1 1).bind λ(x27:aB)=>(dS x18.2.2.1 0).bind λ(x28:aB)=>(dS (x18.2.2.1.set (0:Int).toNat x27) 1).bind λ(x29:aB)=>some (⟨x18.1,x18.2.1,((x18.2.2.1.set (0:Int).toNat x27).set (1:Int).toNat yX),x18.2.2.2⟩:aT)) (some (⟨x18.1,x18.2.1,x18.2.2.1,x18.2.2.2⟩:aT))) (cond (EZ==13) (some (⟨0,0,[],[]⟩:aT)) (some (⟨x18.1,x18.2.1,x18.2.2.1,x18.2.2.2⟩:aT)))))))
def je(k:Int)(epoch:Int)(l:List bK)(j_:Int)(r:aT):AV×WH:=((.agg (dw r)),[])
theorem QS(d:Nat){k:Int}{epoch:Int}{l:List bK}{j_:Int}{r:aT}(h:CU k epoch l j_=some r):Spec (aY bA (d+5)) 54 [(.int .i64 k),(.int .i64 epoch),(fE l),(.int .i64 j_)] [] (je k epoch l j_ r).1 (je k epoch l j_ r).2:=by
 unfold CU at h
 exact bR nB acg h (.z 8 [.undef,.undef,.slice none 2 0 0 true,.slice none 4 0 0 true]<|.bd λx1 q1=>wT (gG (d+3) q1)<|.bd λx2 q2=>wT (gG (d+3) q2)<|.z 19 [.agg [.undef,.undef,.slice none 2 0 0 true,.slice none 4 0 0 true]]<|.bd λx3 q3=>Cl [] Fo [.agg [.undef,.undef,.slice none 2 0 0 true,.slice none 4 0 0 true]] (J7 (d+0) q3)<|.bd λTH q17=>Lp [none,none,none,none,none] [] [.slice none 8 0 0 true,.undef,.undef,.undef,.undef] (KR (d+0) q17)<|.bd λx18 q18=>Cl [Fo] none [] (EJ (d+3) q18)<|.z 12 [.undef,.undef,.slice none 2 0 0 true,.slice none 4 0 0 true]<|.st none<|.bd λEZ TI=>wT (gG (d+3) TI)<|.br 49 (λ_=>.bd λx20 q20=>wT (Ka (d+2) q20)<|.st none<|.st none<|Fn Fo [.agg [.undef,.undef,.slice none 2 0 0 true,.slice none 4 0 0 true]] none) λ_=>.br 55 (λ_=>.bd λx21 q21=>wT (Ka (d+2) q21)<|.st none<|.st none<|Fn Fo [.agg [.undef,.undef,.slice none 2 0 0 true,.slice none 4 0 0 true]] none) λ_=>.br 62 (λ_=>.bd λPg q22=>wT (Ph (d+2) q22)<|.gd λq23=>Ap aR 71 q23<|.st none<|.st none<|Fn Fo [.agg [.undef,.undef,.slice none 2 0 0 true,.slice none 4 0 0 true]] none) λ_=>.br 73 (λ_=>.br 78 (λ_=>.bd λx24 q24=>wT (gG (d+3) q24)<|.bd λx25 q25=>Ia bQ 85 3 q25<|.st (some (bB (x18.2.2.2.set (0:Int).toNat (⟨x25.Client,x25.Seq,(⟨(IntKind.i64.wrap (x24-1)),x25.Answer.Value⟩:aH)⟩:aA))))<|.ob (zu (o:=2) bQ q25 rfl:H6 (bB x18.2.2.2) (0+(0:Int).toNat*4+2) [(.int .i64 (IntKind.i64.wrap (x24-1)))]=some (bB (x18.2.2.2.set (0:Int).toNat (⟨x25.Client,x25.Seq,(⟨(IntKind.i64.wrap (x24-1)),x25.Answer.Value⟩:aH)⟩:aA))))<|.st none<|.Bo (.fin (some false) [.agg [.undef,.undef,.slice none 2 0 0 true,.slice none 4 0 0 true]] none) _ (λr=>@Eq AV (.agg [(.int .i64 x18.1),(.int .i64 x18.2.1),(bP x18.2.2.1),(.list 4 x18.2.2.2.length (bB (x18.2.2.2.set (0:Int).toNat (⟨x25.Client,x25.Seq,(⟨(IntKind.i64.wrap (x24-1)),x25.Answer.Value⟩:aH)⟩:aA))) false)]) (je k epoch l j_ r).1∧@Eq WH [] (je k epoch l j_ r).2) (by show _∧_;(try rw[show AV.list 4 x18.2.2.2.length (bB (x18.2.2.2.set (0:Int).toNat (⟨x25.Client,x25.Seq,(⟨(IntKind.i64.wrap (x24-1)),x25.Answer.Value⟩:aH)⟩:aA))) false=dx (x18.2.2.2.set (0:Int).toNat (⟨x25.Client,x25.Seq,(⟨(IntKind.i64.wrap (x24-1)),x25.Answer.Value⟩:aH)⟩:aA))from by simp only[dx,bO]]);refine⟨?_, ?_⟩<;>first | rfl |(simp only[je,bO,aJ,List.length_replicate,bZ,fJ,aV,aS,Nat.add_zero,Nat.zero_add];done) | simp[je])) λ_=>.st none<|Fn Fo [.agg [.undef,.undef,.slice none 2 0 0 true,.slice none 4 0 0 true]] none) λ_=>.br 88 (λ_=>.br 93 (λ_=>.bd λyX q26=>Ia aR 96 2 q26<|Ld aR 97 true 2 0 q26 (.agg (uN yX)) rfl<|.st none<|.bd λx27 q27=>Ia aR 102 2 q27<|Ld aR 103 true 2 0 q27 (.agg (uN x27)) rfl<|.bd λx28 q28=>Ia aR 104 2 q28<|.st (some (aO (x18.2.2.1.set (0:Int).toNat x27)))<|.ob (zu (o:=0) aR q28 rfl:H6 (aO x18.2.2.1) (0+(0:Int).toNat*2) [(.str x27.Key),(.str x27.Value)]=some (aO (x18.2.2.1.set (0:Int).toNat x27)))<|.bd λx29 q29=>.v 108 (.ptr (some (2,0+(1:Int).toNat*2)))<|.ob (by(try rw[show AV.list 2 x18.2.2.1.length (aO (x18.2.2.1.set (0:Int).toNat x27)) false=bP (x18.2.2.1.set (0:Int).toNat x27)from by simp only[bP,bO]]);rw[show(x18.2.2.1.length:Nat)=(x18.2.2.1.set (0:Int).toNat x27).length from by simp only[bO,aJ,List.length_replicate]];exact RD aR q29:wP (.jE 2 (.c (.acc 2 0 2 x18.2.2.1.length true)) (.c (.int .i64 1)))=some (.ptr (some (2,0+(1:Int).toNat*2))))<|.st (some (aO ((x18.2.2.1.set (0:Int).toNat x27).set (1:Int).toNat yX)))<|.ob (by(try rw[show AV.list 2 x18.2.2.1.length (aO (x18.2.2.1.set (0:Int).toNat x27)) false=bP (x18.2.2.1.set (0:Int).toNat x27)from by simp only[bP,bO]]);exact zu (o:=0) aR q29 rfl:H6 (aO (x18.2.2.1.set (0:Int).toNat x27)) (0+(1:Int).toNat*2) [(.str yX.Key),(.str yX.Value)]=some (aO ((x18.2.2.1.set (0:Int).toNat x27).set (1:Int).toNat yX)))<|.st none<|.Bo (.fin (some false) [.agg [.undef,.undef,.slice none 2 0 0 true,.slice none 4 0 0 true]] none) _ (λr=>@Eq AV (.agg [(.int .i64 x18.1),(.int .i64 x18.2.1),(.list 2 x18.2.2.1.length (aO ((x18.2.2.1.set (0:Int).toNat x27).set (1:Int).toNat yX)) false),(dx x18.2.2.2)]) (je k epoch l j_ r).1∧@Eq WH [] (je k epoch l j_ r).2) (by show _∧_;(try rw[show AV.list 2 x18.2.2.1.length (aO (x18.2.2.1.set (0:Int).toNat x27)) false=bP (x18.2.2.1.set (0:Int).toNat x27)from by simp only[bP,bO]]);(try rw[show AV.list 2 x18.2.2.1.length (aO ((x18.2.2.1.set (0:Int).toNat x27).set (1:Int).toNat yX)) false=bP ((x18.2.2.1.set (0:Int).toNat x27).set (1:Int).toNat yX)from by simp only[bP,bO]]);refine⟨?_, ?_⟩<;>first | rfl |(simp only[je,bO,aJ,List.length_replicate,bZ,fJ,aV,aS,Nat.add_zero,Nat.zero_add];done) | simp[je])) λ_=>.st none<|Fn Fo [.agg [.undef,.undef,.slice none 2 0 0 true,.slice none 4 0 0 true]] none) λ_=>.br 109 (λ_=>.z 111 [.agg [.undef,.undef,.slice none 2 0 0 true,.slice none 4 0 0 true]]<|.st none<|.st none<|Fn Fo [.agg [.undef,.undef,.slice none 2 0 0 true,.slice none 4 0 0 true]] none) λ_=>.st none<|Fn Fo [.agg [.undef,.undef,.slice none 2 0 0 true,.slice none 4 0 0 true]] none)
abbrev F6(o:bG):Fast×WH:=([(1,(.ptr (some (0,0))))],[(some (.cells (dU o) false false))])
def EK(o:bG):Bool→Ex×Fast×WH:=λe=>(.normal,[(1,(.ptr (some (0,0)))),(3,(.bool e))],[(some (.cells (dU o) false false))])
def tq(o:bG):Option (Bool) :=
 cond (o.Kind==2) (some true) (some (o.Kind==4))
theorem G6(d:Nat){o:bG}{r:Bool}(h:tq o=some r):fA (bM (aY bA (d+0)) KK 53 RU) 0 (F6 o) (EK o r):=by
 unfold tq at h
 exact dL nB QD h (.br 7 (λ_=>E0 [1,3]) λ_=>E0 [1,3])
abbrev F7(o:bG)(x1:Bool):Fast×WH:=([(1,(.ptr (some (0,0)))),(3,(.bool x1))],[(some (.cells (dU o) false false))])
def EL(o:bG)(x1:Bool):Bool→Ex×Fast×WH:=λe=>(.normal,[(1,(.ptr (some (0,0)))),(3,(.bool x1)),(12,(.bool e))],[(some (.cells (dU o) false false))])
def tu(o:bG)(x1:Bool):Option (Bool) :=
 cond (decide (o.Kind<1)) (some true) (some (decide (o.Kind>4)))
theorem G7(d:Nat){o:bG}{x1:Bool}{r:Bool}(h:tu o x1=some r):fA (bM (aY bA (d+0)) KK 53 H9) 0 (F7 o x1) (EL o x1 r):=by
 unfold tu at h
 exact dL nB JZ h (.br 16 (λ_=>E0 [1,3,12]) λ_=>E0 [1,3,12])
abbrev F8(o:bG)(x1:Bool):Fast×WH:=([(1,(.ptr (some (0,0)))),(3,(.bool x1))],[(some (.cells (dU o) false false))])
def EM(o:bG)(x1:Bool):Bool→Ex×Fast×WH:=λe=>(.normal,[(1,(.ptr (some (0,0)))),(3,(.bool x1)),(12,(.bool e))],[(some (.cells (dU o) false false))])
def tC(o:bG)(x1:Bool):Option (Bool) :=
 (tu o x1).bind λ(x2:Bool)=>cond x2 (some true) (cond (o.Key==([]:List UInt8)) (some true) (some (decide ((o.Key.length:Int)>8))))
theorem G8(d:Nat){o:bG}{x1:Bool}{r:Bool}(h:tC o x1=some r):fA (bM (aY bA (d+0)) KK 53 JY) 0 (F8 o x1) (EM o x1 r):=by
 unfold tC at h
 exact dL nB KM h (.bd λx2 q2=>Jn [1,3] [none,none] [] [] (G7 (d+0) q2)<|.br 12 (λ_=>E0 [1,3,12]) λ_=>.br 12 (λ_=>E0 [1,3,12]) λ_=>E0 [1,3,12])
abbrev F9(o:bG)(x1:Bool):Fast×WH:=([(1,(.ptr (some (0,0)))),(3,(.bool x1))],[(some (.cells (dU o) false false))])
def EN(o:bG)(x1:Bool):Unit⊕Unit→Ex×Fast×WH:=fun
 |.inl e=>(.ret,[(2,(.bool false))],[])
 |.inr e=>(.normal,[(1,(.ptr (some (0,0)))),(3,(.bool x1))],[(some (.cells (dU o) false false))])
def tF(o:bG)(x1:Bool):Option (Unit⊕Unit) :=
 (tC o x1).bind λ(x3:Bool)=>cond x3 (some (.inl ())) (cond (decide ((o.Value.length:Int)>16)) (some (.inl ())) (cond (decide ((o.Old.length:Int)>16)) (some (.inl ())) (some (.inr ()))))
theorem Ao(d:Nat){o:bG}{x1:Bool}{r:Unit⊕Unit}(h:tF o x1=some r):fA (bM (aY bA (d+0)) KK 53 OX) 0 (F9 o x1) (EN o x1 r):=by
 unfold tF at h
 exact dL nB OY h (.bd λx3 q3=>Jn [1,3] [none,none] [] [] (G8 (d+0) q3)<|.br 12 (λ_=>E0 [2]) λ_=>.br 28 (λ_=>E0 [2]) λ_=>.br 28 (λ_=>E0 [2]) λ_=>E0 [1,3])
def mF(o:bG):Option (Bool) :=
 (tq o).bind λ(x1:Bool)=>(tF o x1).bind λ(x4:Unit⊕Unit)=>cond (nV x4) (some false) (cond x1 (cond (o.Kind==4) (some true) (some (o.Old==([]:List UInt8)))) (cond (o.Value==([]:List UInt8)) (cond (o.Kind==4) (some true) (some (o.Old==([]:List UInt8)))) (some false)))
def Bv(o:bG)(r:Bool):AV×WH:=((.bool r),[])
theorem uY(d:Nat){o:bG}{r:Bool}(h:mF o=some r):Spec (aY bA (d+1)) 81 [(.agg (dU o))] [] (Bv o r).1 (Bv o r).2:=by
 unfold mF at h
 exact bR nB acu h (.sk<|.bd λx1 q1=>Jn [1] [none] [] [] (G6 (d+0) q1)<|.bd λx4 q4=>.ite (λhb5=>Jn [1,3] [none,none] [] [] (wC (il hb5) (Ao (d+0) q4))<|Fn Fo [] none) λhb5=>Jn [1,3] [none,none] [] [] (wC (Iq hb5) (Ao (d+0) q4))<|.br 38 (λ_=>.br 47 (λ_=>Fn Fo [] none) λ_=>Fn Fo [] none) λ_=>.br 43 (λ_=>.br 47 (λ_=>Fn Fo [] none) λ_=>Fn Fo [] none) λ_=>Fn Fo [] none)
def cmp_isNaN_string(a0:List UInt8):Option (Bool) :=
 some (!(a0==a0))
def vG(a0:List UInt8)(r:Bool):AV×WH:=((.bool r),[])
theorem xW(d:Nat){a0:List UInt8}{r:Bool}(h:cmp_isNaN_string a0=some r):Spec (aY bA (d+1)) 125 [(.str a0)] [] (vG a0 r).1 (vG a0 r).2:=by
 unfold cmp_isNaN_string at h
 exact bR nB abH h (Fn Fo [] none)
def mO(a0:List UInt8)(a1:List UInt8):Option (Int) :=
 (cmp_isNaN_string a0).bind λ(x1:Bool)=>(cmp_isNaN_string a1).bind λ(x2:Bool)=>cond x1 (cond x2 (some 0) (some (-1))) (cond x2 (some 1) (cond (Op.bytesLess a0 a1) (some (-1)) (cond (!(Op.bytesLess a0 a1||a0==a1)) (some 1) (some 0))))
def tH(a0:List UInt8)(a1:List UInt8)(r:Int):AV×WH:=((.int .i64 r),[])
theorem CV(d:Nat){a0:List UInt8}{a1:List UInt8}{r:Int}(h:mO a0 a1=some r):Spec (aY bA (d+2)) 111 [(.str a0),(.str a1)] [] (tH a0 a1 r).1 (tH a0 a1 r).2:=by
 unfold mO at h
 exact bR nB abC h (.bd λx1 q1=>wT (xW (d+0) q1)<|.bd λx2 q2=>wT (xW (d+0) q2)<|.br 11 (λ_=>.br 12 (λ_=>Fn Fo [] none) λ_=>Fn Fo [] none) λ_=>.br 13 (λ_=>Fn Fo [] none) λ_=>.br 16 (λ_=>Fn Fo [] none) λ_=>.br 19 (λ_=>Fn Fo [] none) λ_=>Fn Fo [] none)
def iU(p:aB)(key:List UInt8):Option (Int) :=
 (mO p.Key key).bind λ(x1:Int)=>some x1
def tJ(p:aB)(key:List UInt8)(r:Int):AV×WH:=((.int .i64 r),[])
theorem vH(d:Nat){p:aB}{key:List UInt8}{r:Int}(h:iU p key=some r):Spec (aY bA (d+3)) 110 [(.agg (uN p)),(.str key)] [] (tJ p key r).1 (tJ p key r).2:=by
 unfold iU at h
 exact bR nB abB h (.bd λx1 q1=>wT (CV (d+0) q1)<|Fn Fo [] none)
def dF(a0:List aB)(a1:List UInt8)(s3:Int×Int):List AV×WH:=([(bP a0),(.str a1),(.func 110 []),(.int .i64 (a0.length:Int)),(.int .i64 s3.1),(.int .i64 s3.2)],[])
def dN(a0:List aB)(a1:List UInt8):Int→Ex×Fast×WH:=λe=>((.exit 0),[(0,(bP a0)),(1,(.str a1)),(2,(.func 110 [])),(8,(.int .i64 (a0.length:Int))),(9,(.int .i64 e))],[])
abbrev jD(a0:List aB)(a1:List UInt8):=g_ [0,1,2,8,9,10] (dF a0 a1) (dN a0 a1)
def bY(a0:List aB)(a1:List UInt8)(s3:Int×Int):Option ((Int×Int)⊕(Int)) :=
 cond (decide (s3.1<s3.2)) ((dS a0 (IntKind.i64.wrap (SG .u64 (IntKind.u64.wrap (IntKind.i64.wrap (s3.1+s3.2))) 1))).bind λ(x4:aB)=>(iU x4 a1).bind λ(x5:Int)=>cond (decide (x5<0)) (some (.inl ((IntKind.i64.wrap ((IntKind.i64.wrap (SG .u64 (IntKind.u64.wrap (IntKind.i64.wrap (s3.1+s3.2))) 1))+1)),s3.2))) (some (.inl (s3.1,(IntKind.i64.wrap (SG .u64 (IntKind.u64.wrap (IntKind.i64.wrap (s3.1+s3.2))) 1)))))) (some (.inr s3.1))
def dX(a0:List aB)(a1:List UInt8)(s3:Int×Int):Option (Int):=gY (bY a0 a1) KK s3
theorem jK(d:Nat){a0:List aB}{a1:List UInt8}{s3:Int×Int}{r:(Int×Int)⊕(Int)}(h:bY a0 a1 s3=some r):fA (bM (aY bA (d+3)) KK 49 Nl) 0 (yt [0,1,2,8,9,10] (dF a0 a1 s3)) (jD a0 a1 r):=by
 unfold bY at h
 exact dL nB QI h (.br 17 (λ_=>.bd λx4 q4=>Ix aR 27 q4<|.bd λx5 q5=>wT (vH (d+0) q5)<|.br 31 (λ_=>E1 [0,1,2,8,9,10] [none,none,none,none,none,none] [] [.slice none 2 0 0 true,.undef,.undef,.undef,.undef,.undef]) λ_=>E1 [0,1,2,8,9,10] [none,none,none,none,none,none] [] [.slice none 2 0 0 true,.undef,.undef,.undef,.undef,.undef]) λ_=>E1 [0,1,2,8,9] [none,none,none,none,none] [] [.slice none 2 0 0 true,.undef,.undef,.undef,.undef])
theorem jL(d:Nat){a0:List aB}{a1:List UInt8}{s3:Int×Int}{r:Int}(h:dX a0 a1 s3=some r):fA (jW (bM (aY bA (d+3)) KK 49 Nl) [0,1,2,8,9,10] KK) 0 (yt [0,1,2,8,9,10] (dF a0 a1 s3)) (dN a0 a1 r) :=
 iw (st:=dF a0 a1) (fin:=dN a0 a1) (step:=bY a0 a1) (λe=>by(intro h;cases h)) (λs x h=>jK d h) KK s3 r h
def bX(a0:List aB)(a1:List UInt8):Option (Int×Bool) :=
 (dX a0 a1 (0,(a0.length:Int))).bind λ(x6:Int)=>cond (decide (x6<(a0.length:Int))) ((dS a0 x6).bind λ(x7:aB)=>(iU x7 a1).bind λ(x8:Int)=>some (x6,(x8==0))) (some (x6,false))
def fO(a0:List aB)(a1:List UInt8)(r:Int×Bool):AV×WH:=((.tuple [(.int .i64 r.1),(.bool r.2)]),[])
theorem gu(d:Nat){a0:List aB}{a1:List UInt8}{r:Int×Bool}(h:bX a0 a1=some r):Spec (aY bA (d+4)) 109 [(bP a0),(.str a1),(.func 110 [])] [] (fO a0 a1 r).1 (fO a0 a1 r).2:=by
 unfold bX at h
 exact bR nB abA h (.bd λx6 q6=>Lp [none,none,none,none,none,none] [] [.slice none 2 0 0 true,.undef,.undef,.undef,.undef,.undef] (jL (d+0) q6)<|.br 39 (λ_=>.bd λx7 q7=>Ix aR 43 q7<|.bd λx8 q8=>wT (vH (d+0) q8)<|Fn Fo [] none) λ_=>Fn Fo [] none)
def jy(k:Int)(value:List UInt8)(aZ:List aB):Option (List aB) :=
 gd (fu 32 aZ.length) ((dS aZ k).bind λ(x2:aB)=>some (aZ.set k.toNat (⟨x2.Key,value⟩:aB)))
def gQ(k:Int)(value:List UInt8)(aZ:List aB)(r:List aB):AV×WH:=((.tuple []),[(some (.cells [(.acc 2 0 2 r.length true)] false false)),(some (.cells (aO aZ) false true)),(some (.cells (aO r) false true))])
theorem wF(d:Nat){k:Int}{value:List UInt8}{aZ:List aB}{r:List aB}(h:jy k value aZ=some r):Spec (aY bA (d+2)) 112 [(.ptr (some (0,0))),(.int .i64 k),(.str value)] [(some (.cells [(.acc 1 0 2 aZ.length true)] false false)),(some (.cells (aO aZ) false true))] (gQ k value aZ r).1 (gQ k value aZ r).2:=by
 unfold jy at h
 exact bR (Ej _) Z7 h (.gd λq1=>.ob q1<|.st none<|.bd λx2 q2=>Ia aR 20 2 q2<|.st (some (aO (aZ.set k.toNat (⟨x2.Key,value⟩:aB))))<|.ob (zu (o:=1) aR q2 rfl:H6 (aO aZ) (0+k.toNat*2+1) [(.str value)]=some (aO (aZ.set k.toNat (⟨x2.Key,value⟩:aB))))<|.Bo (.fin (some false) [] none) _ (λr=>@Eq AV (.tuple []) (gQ k value aZ r).1∧@Eq WH [(some (.cells [(.acc 2 0 2 aZ.length true)] false false)),(some (.cells (aO aZ) false true)),(some (.cells (aO (aZ.set k.toNat (⟨x2.Key,value⟩:aB))) false true))] (gQ k value aZ r).2) (by show _∧_;(try rw[show AV.list 2 aZ.length (aO (aZ.set k.toNat (⟨x2.Key,value⟩:aB))) false=bP (aZ.set k.toNat (⟨x2.Key,value⟩:aB))from by simp only[bP,bO]]);refine⟨?_, ?_⟩<;>first | rfl |(simp only[gQ,bO,aJ,List.length_replicate,bZ,fJ,aV,aS,Nat.add_zero,Nat.zero_add];done) | simp[gQ]))
def nL(o:bG)(k:Int)(aZ:List aB):Option (aH×List aB) :=
 (dS aZ k).bind λ(x1:aB)=>cond (!(x1.Value==o.Old)) (some ((⟨6,x1.Value⟩:aH),aZ)) ((jy k o.Value aZ).bind λ(x2:List aB)=>some ((⟨0,([]:List UInt8)⟩:aH),x2))
def uw(o:bG)(k:Int)(aZ:List aB)(r:aH×List aB):AV×WH:=((.agg (cu r.1)),[(some (.cells [(.acc 2 0 2 r.2.length true)] false false)),none,(some (.cells (aO r.2) false true))])
theorem DR(d:Nat){o:bG}{k:Int}{aZ:List aB}{r:aH×List aB}(h:nL o k aZ=some r):Spec (aY bA (d+3)) 84 [(.ptr (some (0,0))),(.agg (dU o)),(.int .i64 k)] [(some (.cells [(.acc 1 0 2 aZ.length true)] false false)),(some (.cells (aO aZ) false true))] (uw o k aZ r).1 (uw o k aZ r).2:=by
 unfold nL at h
 exact bR nB aby h (.bd λx1 q1=>Ia aR 13 1 q1<|Ld aR 15 false 1 1 q1 (.str x1.Value) rfl<|.br 19 (λ_=>.st none<|Fn Fo [] Tw) λ_=>.bd λx2 q2=>U9 (wF (d+0) q2)<|.st none<|.kl [1]<|Fn Fo [] Tw)
def mP(key:List UInt8)(aZ:List aB):Option (Int×Bool) :=
 (bX aZ key).bind λ(x1:Int×Bool)=>some (x1.1,x1.2)
def tK(key:List UInt8)(aZ:List aB)(r:Int×Bool):AV×WH:=((.tuple [(.int .i64 r.1),(.bool r.2)]),[(some (.cells [(.acc 1 0 2 aZ.length true)] false false)),(some (.cells (aO aZ) false true))])
theorem CW(d:Nat){key:List UInt8}{aZ:List aB}{r:Int×Bool}(h:mP key aZ=some r):Spec (aY bA (d+5)) 82 [(.ptr (some (0,0))),(.str key)] [(some (.cells [(.acc 1 0 2 aZ.length true)] false false)),(some (.cells (aO aZ) false true))] (tK key aZ r).1 (tK key aZ r).2:=by
 unfold mP at h
 exact bR nB abw h (.bd λx1 q1=>Cb [.slice none 2 0 0 true] (gu (d+0) q1)<|Fn Fo [] none)
def nM(o:bG)(k:Int)(had:Bool)(aZ:List aB):Option (aH×List aB) :=
 cond had ((jy k o.Value aZ).bind λ(x1:List aB)=>some ((⟨0,([]:List UInt8)⟩:aH),x1)) (cond ((aZ.length:Int)==8) (some ((⟨5,([]:List UInt8)⟩:aH),aZ)) (gd (fu 32 aZ.length) (gd (M9 32 k aZ.length) (some ((⟨0,([]:List UInt8)⟩:aH),(vS aZ k (⟨o.Key,o.Value⟩:aB)))))))
def uy(o:bG)(k:Int)(had:Bool)(aZ:List aB)(r:aH×List aB):AV×WH:=((.agg (cu r.1)),[(some (.cells [(.acc 2 0 2 r.2.length true)] false false)),none,(some (.cells (aO r.2) false true))])
theorem DT(d:Nat){o:bG}{k:Int}{had:Bool}{aZ:List aB}{r:aH×List aB}(h:nM o k had aZ=some r):Spec (aY bA (d+3)) 83 [(.ptr (some (0,0))),(.agg (dU o)),(.int .i64 k),(.bool had)] [(some (.cells [(.acc 1 0 2 aZ.length true)] false false)),(some (.cells (aO aZ) false true))] (uy o k had aZ r).1 (uy o k had aZ r).2:=by
 unfold nM at h
 exact bR (Ej _) abx h (.br 25 (λ_=>.bd λx1 q1=>U9 (wF (d+0) q1)<|.st none<|.kl [1]<|Fn Fo [] Tw) λ_=>.br 32 (λ_=>.st none<|Fn Fo [] Tw) λ_=>.gd λq2=>.ob q2<|.gd λq3=>.ob (Qh q3:(0≤k∧k≤((aZ.length:Nat):Int)))<|.ap 22 (vS aZ k (⟨o.Key,o.Value⟩:aB)).length (aO (vS aZ k (⟨o.Key,o.Value⟩:aB)))<|.ob (Qi (l:=aZ) q3:aZ.length+1=(vS aZ k (⟨o.Key,o.Value⟩:aB)).length)<|.ob (RH aR rfl:(aO aZ).take (k.toNat*2)++([(.str o.Key),(.str o.Value)]++(aO aZ).drop (k.toNat*2))=aO (vS aZ k (⟨o.Key,o.Value⟩:aB)))<|.ob (U5 (l:=aZ) q3:fu 32 (vS aZ k (⟨o.Key,o.Value⟩:aB)).length=true)<|.st none<|.st none<|.kl [1]<|Fn Fo [] Tw)
def kg(o:bG)(aZ:List aB):Option (aH×List aB) :=
 (mF o).bind λ(x1:Bool)=>cond (!x1) (some ((⟨1,([]:List UInt8)⟩:aH),aZ)) ((mP o.Key aZ).bind λ(x2:Int×Bool)=>cond (o.Kind==2) ((nM o x2.1 x2.2 aZ).bind λ(x3:aH×List aB)=>some (x3.1,x3.2)) (cond (!x2.2) (some ((⟨4,([]:List UInt8)⟩:aH),aZ)) (cond (o.Kind==1) ((dS aZ x2.1).bind λ(x4:aB)=>some ((⟨0,x4.Value⟩:aH),aZ)) (cond (o.Kind==4) ((nL o x2.1 aZ).bind λ(x5:aH×List aB)=>some (x5.1,x5.2)) (gd (fu 32 aZ.length) (gd (SH x2.1 (IntKind.i64.wrap (x2.1+1)) aZ.length) (some ((⟨0,([]:List UInt8)⟩:aH),(zw aZ x2.1 (IntKind.i64.wrap (x2.1+1)))))))))))
def vI(o:bG)(aZ:List aB)(r:aH×List aB):AV×WH:=((.agg (cu r.1)),[(some (.cells [(.acc 2 0 2 r.2.length true)] false false)),none,(some (.cells (aO r.2) false true))])
theorem xX(d:Nat){o:bG}{aZ:List aB}{r:aH×List aB}(h:kg o aZ=some r):Spec (aY bA (d+6)) 46 [(.ptr (some (0,0))),(.agg (dU o))] [(some (.cells [(.acc 1 0 2 aZ.length true)] false false)),(some (.cells (aO aZ) false true))] (vI o aZ r).1 (vI o aZ r).2:=by
 unfold kg at h
 exact bR (Ej _) abp h (.bd λx1 q1=>wT (uY (d+4) q1)<|.br 9 (λ_=>.st none<|Fn Fo [] Tw) λ_=>.bd λx2 q2=>U9 (CW (d+0) q2)<|.br 18 (λ_=>.bd λx3 q3=>U9 (DT (d+2) q3)<|.st none<|Fn Fo [] Tw) λ_=>.br 27 (λ_=>.st none<|Fn Fo [] Tw) λ_=>.br 31 (λ_=>.bd λx4 q4=>Ia aR 40 1 q4<|Ld aR 42 false 1 1 q4 (.str x4.Value) rfl<|.st none<|Fn Fo [] Tw) λ_=>.br 44 (λ_=>.bd λx5 q5=>U9 (DR (d+2) q5)<|.st none<|Fn Fo [] Tw) λ_=>.gd λq6=>.ob q6<|.gd λq7=>.ob (Qj q7:(0≤x2.1∧x2.1<(IntKind.i64.wrap (x2.1+1))∧(IntKind.i64.wrap (x2.1+1))≤((aZ.length:Nat):Int)))<|.ap 61 (zw aZ x2.1 (IntKind.i64.wrap (x2.1+1))).length (aO (zw aZ x2.1 (IntKind.i64.wrap (x2.1+1))))<|.ob (U6 (l:=aZ) q7:aZ.length-((IntKind.i64.wrap (x2.1+1)).toNat-x2.1.toNat)=(zw aZ x2.1 (IntKind.i64.wrap (x2.1+1))).length)<|.ob (RI aR:(aO aZ).take (x2.1.toNat*2)++(aO aZ).drop ((IntKind.i64.wrap (x2.1+1)).toNat*2)=aO (zw aZ x2.1 (IntKind.i64.wrap (x2.1+1))))<|.st none<|.st none<|.kl [1]<|Fn Fo [] Tw)
def tL(p:List aB)(s5:Int×List aB):List AV×WH:=([(.ptr (some (0,0))),(.ptr (some (1,0))),(bP p),(.int .i64 (p.length:Int)),(.int .i64 s5.1)],[(some (.cells [(.acc 2 0 2 0 true)] false false)),(some (.cells [(.acc 3 0 2 s5.2.length true)] false false)),(some (.cells (aO []) false true)),(some (.cells (aO s5.2) false true))])
def vU(p:List aB):(List aB)→Ex×Fast×WH:=λe=>((.exit 0),[(2,(.ptr (some (0,0)))),(3,(.ptr (some (1,0))))],[(some (.cells [(.acc 2 0 2 0 true)] false false)),(some (.cells [(.acc 3 0 2 e.length true)] false false)),(some (.cells (aO []) false true)),(some (.cells (aO e) false true))])
abbrev Ki(p:List aB):=g_ [2,3,6,7,8] (tL p) (vU p)
def nA(p:List aB)(s5:Int×List aB):Option ((Int×List aB)⊕((List aB))) :=
 cond (decide (s5.1<(p.length:Int))) ((dS p s5.1).bind λ(x6:aB)=>(kg (⟨2,x6.Key,x6.Value,([]:List UInt8)⟩:bG) s5.2).bind λ(x7:aH×List aB)=>some (.inl ((IntKind.i64.wrap (s5.1+1)),x7.2))) (some (.inr s5.2))
def CX(p:List aB)(s5:Int×List aB):Option ((List aB)):=gY (nA p) KK s5
theorem KS(d:Nat){p:List aB}{s5:Int×List aB}{r:(Int×List aB)⊕((List aB))}(h:nA p s5=some r):fA (bM (aY bA (d+6)) KK 20 JV) 0 (yt [2,3,6,7,8] (tL p s5)) (Ki p r):=by
 unfold nA at h
 exact dL nB LY h (.br 9 (λ_=>.bd λx6 q6=>Ix aR 10 q6<|.st none<|.bd λx7 q7=>U9 (xX (d+0) q7)<|E1 [2,3,6,7,8] [none,none,none,none,none] [] [.undef,.undef,.slice none 2 0 0 true,.undef,.undef]) λ_=>E0 [2,3])
theorem KT(d:Nat){p:List aB}{s5:Int×List aB}{r:(List aB)}(h:CX p s5=some r):fA (jW (bM (aY bA (d+6)) KK 20 JV) [2,3,6,7,8] KK) 0 (yt [2,3,6,7,8] (tL p s5)) (vU p r) :=
 iw (st:=tL p) (fin:=vU p) (step:=nA p) (λe=>by(intro h;cases h)) (λs x h=>KS d h) KK s5 r h
def Aq(p:List aB):Option (gq) :=
 (CX p (0,[])).bind λ(x8:(List aB))=>some (⟨x8⟩:gq)
def Ga(p:List aB)(r:gq):AV×WH:=((.agg (KI r)),[])
theorem QT(d:Nat){p:List aB}{r:gq}(h:Aq p=some r):Spec (aY bA (d+7)) 52 [(bP p)] [] (Ga p r).1 (Ga p r).2:=by
 unfold Aq at h
 exact bR nB abr h (.z 2 [.slice none 2 0 0 true]<|.z 3 [.slice none 2 0 0 true]<|.bd λx8 q8=>Lp [none,none,none,none,none] [Tw,Tw,Tw,Tw] [.undef,.undef,.slice none 2 0 0 true,.undef,.undef] (KT (d+0) q8)<|.st none<|Fn Fo [.agg [.slice none 2 0 0 true]] none)
abbrev wU(bN:aA)(bF:aQ):Fast×WH:=([(0,(.ptr (some (0,0)))),(3,(.ptr (some (1,0))))],[(some (.cells (dA bF) false false)),(some (.cells (bD bN) false false))])
def vV(bN:aA)(bF:aQ):Unit⊕Unit→Ex×Fast×WH:=fun
 |.inl e=>(.ret,[(4,(.bool false))],[(some (.cells (dA bF) false false))])
 |.inr e=>(.normal,[(0,(.ptr (some (0,0)))),(3,(.ptr (some (1,0))))],[(some (.cells (dA bF) false false)),(some (.cells (bD bN) false false))])
def dh(bN:aA)(bF:aQ):Option (Unit⊕Unit) :=
 cond (decide (bN.Client<0)) (some (.inl ())) (cond (decide (bN.Client≥4)) (some (.inl ())) (cond (decide (bN.Seq<1)) (some (.inl ())) ((dS (bF.l.zQ) bN.Client).bind λ(x1:aA)=>cond (decide (bN.Seq≤x1.Seq)) (some (.inl ())) (some (.inr ())))))
theorem oH(d:Nat){bN:aA}{bF:aQ}{r:Unit⊕Unit}(h:dh bN bF=some r):fA (bM (aY bA (d+0)) KK 38 Ng) 1 (wU bN bF) (vV bN bF r):=by
 unfold dh at h
 exact dL nB JR h (.br 8 (λ_=>E0 [4]) λ_=>.br 13 (λ_=>E0 [4]) λ_=>.br 18 (λ_=>E0 [4]) λ_=>.bd λx1 q1=>.v 26 (.ptr (some (0,0+bN.Client.toNat*4)))<|.ob (GR q1 rfl:wP (.l5 4 4 (.c (.ptr (some (0,0)))) (.c (.int .i64 bN.Client)))=some (.ptr (some (0,0+bN.Client.toNat*4))))<|.v 28 (.int .i64 x1.Seq)<|.ob (M_ (p:=0) (o:=1) bQ q1 rfl rfl:qB false (0+bN.Client.toNat*4+1) 1 (dA bF)=some (.int .i64 x1.Seq))<|.br 30 (λ_=>E0 [4]) λ_=>E0 [0,3])
def bW(bN:aA)(bF:aQ):Option (Bool×aQ) :=
 (dh bN bF).bind λ(x2:Unit⊕Unit)=>cond (nV x2) (some (false,bF)) ((dS (bF.l.zQ) bN.Client).bind λ(x4:aA)=>some (true,(⟨(bF.l.set bN.Client bN)⟩:aQ)))
def qb(bN:aA)(bF:aQ)(r:Bool×aQ):AV×WH:=((.bool r.1),[(some (.cells (dA r.2) false false))])
theorem Ar(d:Nat){bN:aA}{bF:aQ}{r:Bool×aQ}(h:bW bN bF=some r):Spec (aY bA (d+1)) 13 [(.ptr (some (0,0))),(.agg (bD bN))] [(some (.cells (dA bF) false false))] (qb bN bF r).1 (qb bN bF r).2:=by
 unfold bW at h
 exact bR nB abn h (.sk<|.bd λx2 q2=>.ite (λhb3=>Jn [0,3] [none,none] [] [] (wC (il hb3) (oH (d+0) q2))<|Fn Fo [] none) λhb3=>Jn [0,3] [none,none] [] [] (wC (Iq hb3) (oH (d+0) q2))<|.bd λx4 q4=>.v 37 (.ptr (some (0,0+bN.Client.toNat*4)))<|.ob (GR q4 rfl:wP (.l5 4 4 (.c (.ptr (some (0,0)))) (.c (.int .i64 bN.Client)))=some (.ptr (some (0,0+bN.Client.toNat*4))))<|.st (some (dA (⟨(bF.l.set bN.Client bN)⟩:aQ)))<|.ob (U7 (p:=0) (o:=0) bQ q4 (A4.RJ _ q4) rfl (Nat.le_of_ble_eq_true rfl) rfl rfl:H6 (dA bF) (0+bN.Client.toNat*4) [(.int .i64 bN.Client),(.int .i64 bN.Seq),(.int .i64 bN.Answer.Why),(.str bN.Answer.Value)]=some (dA (⟨(bF.l.set bN.Client bN)⟩:aQ)))<|Fn Fo [] none)
def lX(l:List aA)(s3:Int×aQ):List AV×WH:=([(.ptr (some (0,0))),(.ptr (some (1,0))),(dx l),(.int .i64 (l.length:Int)),(.int .i64 s3.1)],[(some (.cells (dA (⟨(⟨(⟨0,0,(⟨0,([]:List UInt8)⟩:aH)⟩:aA),(⟨0,0,(⟨0,([]:List UInt8)⟩:aH)⟩:aA),(⟨0,0,(⟨0,([]:List UInt8)⟩:aH)⟩:aA),(⟨0,0,(⟨0,([]:List UInt8)⟩:aH)⟩:aA)⟩:A4 aA)⟩:aQ)) false false)),(some (.cells (dA s3.2) false false))])
def oI(l:List aA):aQ→Ex×Fast×WH:=λe=>((.exit 0),[(2,(.ptr (some (0,0)))),(3,(.ptr (some (1,0))))],[(some (.cells (dA (⟨(⟨(⟨0,0,(⟨0,([]:List UInt8)⟩:aH)⟩:aA),(⟨0,0,(⟨0,([]:List UInt8)⟩:aH)⟩:aA),(⟨0,0,(⟨0,([]:List UInt8)⟩:aH)⟩:aA),(⟨0,0,(⟨0,([]:List UInt8)⟩:aH)⟩:aA)⟩:A4 aA)⟩:aQ)) false false)),(some (.cells (dA e) false false))])
abbrev DU(l:List aA):=g_ [2,3,6,7,8] (lX l) (oI l)
def gB(l:List aA)(s3:Int×aQ):Option ((Int×aQ)⊕(aQ)) :=
 cond (decide (s3.1<(l.length:Int))) ((dS l s3.1).bind λ(x4:aA)=>(bW x4 s3.2).bind λ(x5:Bool×aQ)=>some (.inl ((IntKind.i64.wrap (s3.1+1)),x5.2))) (some (.inr s3.2))
def pU(l:List aA)(s3:Int×aQ):Option (aQ):=gY (gB l) KK s3
theorem EO(d:Nat){l:List aA}{s3:Int×aQ}{r:(Int×aQ)⊕(aQ)}(h:gB l s3=some r):fA (bM (aY bA (d+1)) KK 16 QE) 0 (yt [2,3,6,7,8] (lX l s3)) (DU l r):=by
 unfold gB at h
 exact dL nB Tf h (.br 9 (λ_=>.bd λx4 q4=>Ix bQ 10 q4<|.st none<|.bd λx5 q5=>Cl [] Fo [] (Ar (d+0) q5)<|E1 [2,3,6,7,8] [none,none,none,none,none] [] [.undef,.undef,.slice none 4 0 0 true,.undef,.undef]) λ_=>E0 [2,3])
theorem EP(d:Nat){l:List aA}{s3:Int×aQ}{r:aQ}(h:pU l s3=some r):fA (jW (bM (aY bA (d+1)) KK 16 QE) [2,3,6,7,8] KK) 0 (yt [2,3,6,7,8] (lX l s3)) (oI l r) :=
 iw (st:=lX l) (fin:=oI l) (step:=gB l) (λe=>by(intro h;cases h)) (λs x h=>EO d h) KK s3 r h
def jf(l:List aA):Option (aQ) :=
 (pU l (0,(⟨(⟨(⟨0,0,(⟨0,([]:List UInt8)⟩:aH)⟩:aA),(⟨0,0,(⟨0,([]:List UInt8)⟩:aH)⟩:aA),(⟨0,0,(⟨0,([]:List UInt8)⟩:aH)⟩:aA),(⟨0,0,(⟨0,([]:List UInt8)⟩:aH)⟩:aA)⟩:A4 aA)⟩:aQ))).bind λ(x6:aQ)=>some x6
def y5(l:List aA)(r:aQ):AV×WH:=((.agg (dA r)),[])
theorem Bw(d:Nat){l:List aA}{r:aQ}(h:jf l=some r):Spec (aY bA (d+2)) 91 [(dx l)] [] (y5 l r).1 (y5 l r).2:=by
 unfold jf at h
 exact bR nB acy h (.bd λx6 q6=>Lp [none,none,none,none,none] [] [.undef,.undef,.slice none 4 0 0 true,.undef,.undef] (EP (d+0) q6)<|.st none<|Fn Fo [] none)
def tN(bN:aT):Option (aD) :=
 (Aq bN.Pairs).bind λ(x1:gq)=>(jf bN.fM).bind λ(x2:aQ)=>some (⟨x1,x2,bN.jJ,bN.Epoch⟩:aD)
def Gb(bN:aT)(r:aD):AV×WH:=((.agg (aU r)),[])
theorem ER(d:Nat){bN:aT}{r:aD}(h:tN bN=some r):Spec (aY bA (d+8)) 55 [(.agg (dw bN))] [] (Gb bN r).1 (Gb bN r).2:=by
 unfold tN at h
 exact bR nB abt h (.z 2 [.slice none 2 0 0 true,.undef,.undef,.undef,.undef,.undef,.undef,.undef,.undef,.undef,.undef,.undef,.undef,.undef,.undef,.undef,.undef,.undef,.undef]<|.bd λx1 q1=>Cl [] Fo [.slice none 2 0 0 true] (QT (d+0) q1)<|.er<|.ob (rfl:@Eq (Option AV) (some (dx bN.fM)) (some (dx bN.fM)))<|.bd λx2 q2=>Cb [.slice none 4 0 0 true] (Bw (d+5) q2)<|.st none<|Fn Fo [.agg [.slice none 2 0 0 true,.undef,.undef,.undef,.undef,.undef,.undef,.undef,.undef,.undef,.undef,.undef,.undef,.undef,.undef,.undef,.undef,.undef,.undef]] none)
def jA(t:aD):Option (List aB) :=
 gd (fu 32 t.Table.l.length) (some t.Table.l)
def uz(t:aD)(r:List aB):AV×WH:=((bP r),[(some (.cells (aU t) false false))])
theorem wH(d:Nat){t:aD}{r:List aB}(h:jA t=some r):Spec (aY bA (d+2)) 48 [(.ptr (some (0,0)))] [(some (.cells (aU t) false false))] (uz t r).1 (uz t r).2:=by
 unfold jA at h
 exact bR (Ej _) abq h (.z 2 [.slice none 2 0 0 true]<|.gd λq1=>.ob q1<|Fn Fo [.slice none 2 0 0 true] none)
def iH(bF:aD)(s5:Int×List aA):List AV×WH:=([(.acc 1 0 4 s5.2.length true),(.agg (dA bF.bf)),(.int .i64 s5.1)],[(some (.cells (aU bF) false false)),(some (.cells (bB s5.2) false true))])
def jS(bF:aD):(List aA)→Ex×Fast×WH:=λe=>((.exit 0),[(3,(.acc 1 0 4 e.length true))],[(some (.cells (aU bF) false false)),(some (.cells (bB e) false true))])
abbrev xY(bF:aD):=g_ [3,9,10] (iH bF) (jS bF)
def eu(bF:aD)(s5:Int×List aA):Option ((Int×List aA)⊕((List aA))) :=
 cond (decide (s5.1<4)) ((dS ([bF.bf.l.a0,bF.bf.l.a1,bF.bf.l.a2,bF.bf.l.a3]:List aA) s5.1).bind λ(x6:aA)=>cond (decide (x6.Seq>0)) (gd (fu 40 (s5.2++[x6]).length) (some (.inl ((IntKind.i64.wrap (s5.1+1)),(s5.2++[x6]))))) (some (.inl ((IntKind.i64.wrap (s5.1+1)),s5.2)))) (some (.inr s5.2))
def mq(bF:aD)(s5:Int×List aA):Option ((List aA)):=gY (eu bF) KK s5
theorem yG(d:Nat){bF:aD}{s5:Int×List aA}{r:(Int×List aA)⊕((List aA))}(h:eu bF s5=some r):fA (bM (aY bA (d+0)) KK 23 JU) 1 (yt [3,9,10] (iH bF s5)) (xY bF r):=by
 unfold eu at h
 exact dL nB LW h (.br 11 (λ_=>.bd λx6 q6=>.v 12 (.agg (bD x6))<|.ob (U8 bQ q6:wP (.index true 4 4 (.c (.agg (bB ([bF.bf.l.a0,bF.bf.l.a1,bF.bf.l.a2,bF.bf.l.a3])))) (.c (.int .i64 s5.1)))=some (.agg (bD x6)))<|.st none<|.br 15 (λ_=>.gd λq7=>Ap bQ 19 q7<|E1 [3,9,10] [none,none,none] [] [.slice none 4 0 0 true,.undef,.undef]) λ_=>E1 [3,9,10] [none,none,none] [] [.slice none 4 0 0 true,.undef,.undef]) λ_=>E1 [3] [none] [] [.slice none 4 0 0 true])
theorem yH(d:Nat){bF:aD}{s5:Int×List aA}{r:(List aA)}(h:mq bF s5=some r):fA (jW (bM (aY bA (d+0)) KK 23 JU) [3,9,10] KK) 1 (yt [3,9,10] (iH bF s5)) (jS bF r) :=
 iw (st:=iH bF) (fin:=jS bF) (step:=eu bF) (λe=>by(intro h;cases h)) (λs x h=>yG d h) KK s5 r h
def gD(bF:aD):Option (List aA) :=
 (mq bF (0,[])).bind λ(x8:(List aA))=>some x8
def qK(bF:aD)(r:List aA):AV×WH:=((dx r),[(some (.cells (aU bF) false false))])
theorem tO(d:Nat){bF:aD}{r:List aA}(h:gD bF=some r):Spec (aY bA (d+2)) 14 [(.ptr (some (0,1)))] [(some (.cells (aU bF) false false))] (qK bF r).1 (qK bF r).2:=by
 unfold gD at h
 exact bR (Ej _) abo h (.z 2 [.slice none 4 0 0 true]<|.z 3 [.slice none 4 0 0 true]<|.bd λx8 q8=>Lp [Tw,none,none] [] [.slice none 4 0 0 true,.undef,.undef] (yH (d+1) q8)<|Fn Fo [.slice none 4 0 0 true] none)
def gL(bF:aD):Option (aT) :=
 (jA bF).bind λ(x1:List aB)=>(gD bF).bind λ(x2:List aA)=>some (⟨bF.ID,bF.Epoch,x1,x2⟩:aT)
def uD(bF:aD)(r:aT):AV×WH:=((.agg (dw r)),[(some (.cells (aU bF) false false))])
theorem lY(d:Nat){bF:aD}{r:aT}(h:gL bF=some r):Spec (aY bA (d+3)) 56 [(.ptr (some (0,0)))] [(some (.cells (aU bF) false false))] (uD bF r).1 (uD bF r).2:=by
 unfold gL at h
 exact bR nB abu h (.z 2 [.undef,.undef,.slice none 2 0 0 true,.slice none 4 0 0 true]<|.bd λx1 q1=>Cl [] Fo [] (wH (d+0) q1)<|.bd λx2 q2=>Cl [] Fo [] (tO (d+0) q2)<|.v 6 (.int .i64 bF.ID)<|.ob (rfl:@Eq (Option AV) (some (.int .i64 bF.ID)) (some (.int .i64 bF.ID)))<|.ob (rfl:@Eq (Option AV) (some (.int .i64 bF.ID)) (some (.int .i64 bF.ID)))<|.ob (rfl:@Eq (Option AV) (some (.int .i64 bF.ID)) (some (.int .i64 bF.ID)))<|.v 10 (.int .i64 bF.Epoch)<|.ob (rfl:@Eq (Option AV) (some (.int .i64 bF.Epoch)) (some (.int .i64 bF.Epoch)))<|.ob (rfl:@Eq (Option AV) (some (.int .i64 bF.Epoch)) (some (.int .i64 bF.Epoch)))<|.ob (rfl:@Eq (Option AV) (some (.int .i64 bF.Epoch)) (some (.int .i64 bF.Epoch)))<|.st none<|Fn Fo [.agg [.undef,.undef,.slice none 2 0 0 true,.slice none 4 0 0 true]] none)
def lZ(t:aD):Option (List aB) :=
 gd (fu 32 t.Table.l.length) (some t.Table.l)
def rT(t:aD)(r:List aB):AV×WH:=((.acc 1 0 2 r.length true),[(some (.cells (aU t) false false)),(some (.cells (aO r) false true))])
theorem BK(d:Nat){t:aD}{r:List aB}(h:lZ t=some r):Spec (aY bA (d+2)) 48 [(.ptr (some (0,0)))] [(some (.cells (aU t) false false))] (rT t r).1 (rT t r).2:=by
 unfold lZ at h
 exact bR (Ej _) abq h (.z 2 [.slice none 2 0 0 true]<|.gd λq1=>.ob q1<|Fn none [.slice none 2 0 0 true] none)
def gW(bF:aD)(s5:Int×List aA):List AV×WH:=([(.acc 1 0 4 s5.2.length true),(.agg (dA bF.bf)),(.int .i64 s5.1)],[(some (.cells (aU bF) false false)),(some (.cells (bB s5.2) false true))])
def ji(bF:aD):(List aA)→Ex×Fast×WH:=λe=>((.exit 0),[(3,(.acc 1 0 4 e.length true))],[(some (.cells (aU bF) false false)),(some (.cells (bB e) false true))])
abbrev vW(bF:aD):=g_ [3,9,10] (gW bF) (ji bF)
def iy(bF:aD)(s5:Int×List aA):Option ((Int×List aA)⊕((List aA))) :=
 cond (decide (s5.1<4)) ((dS ([bF.bf.l.a0,bF.bf.l.a1,bF.bf.l.a2,bF.bf.l.a3]:List aA) s5.1).bind λ(x6:aA)=>cond (decide (x6.Seq>0)) (gd (fu 40 (s5.2++[x6]).length) (some (.inl ((IntKind.i64.wrap (s5.1+1)),(s5.2++[x6]))))) (some (.inl ((IntKind.i64.wrap (s5.1+1)),s5.2)))) (some (.inr s5.2))
def qc(bF:aD)(s5:Int×List aA):Option ((List aA)):=gY (iy bF) KK s5
theorem wV(d:Nat){bF:aD}{s5:Int×List aA}{r:(Int×List aA)⊕((List aA))}(h:iy bF s5=some r):fA (bM (aY bA (d+0)) KK 23 JU) 1 (yt [3,9,10] (gW bF s5)) (vW bF r):=by
 unfold iy at h
 exact dL nB LW h (.br 11 (λ_=>.bd λx6 q6=>.v 12 (.agg (bD x6))<|.ob (U8 bQ q6:wP (.index true 4 4 (.c (.agg (bB ([bF.bf.l.a0,bF.bf.l.a1,bF.bf.l.a2,bF.bf.l.a3])))) (.c (.int .i64 s5.1)))=some (.agg (bD x6)))<|.st none<|.br 15 (λ_=>.gd λq7=>Ap bQ 19 q7<|E1 [3,9,10] [none,none,none] [] [.slice none 4 0 0 true,.undef,.undef]) λ_=>E1 [3,9,10] [none,none,none] [] [.slice none 4 0 0 true,.undef,.undef]) λ_=>E1 [3] [none] [] [.slice none 4 0 0 true])
theorem wW(d:Nat){bF:aD}{s5:Int×List aA}{r:(List aA)}(h:qc bF s5=some r):fA (jW (bM (aY bA (d+0)) KK 23 JU) [3,9,10] KK) 1 (yt [3,9,10] (gW bF s5)) (ji bF r) :=
 iw (st:=gW bF) (fin:=ji bF) (step:=iy bF) (λe=>by(intro h;cases h)) (λs x h=>wV d h) KK s5 r h
def jT(bF:aD):Option (List aA) :=
 (qc bF (0,[])).bind λ(x8:(List aA))=>some x8
def oJ(bF:aD)(r:List aA):AV×WH:=((.acc 1 0 4 r.length true),[(some (.cells (aU bF) false false)),(some (.cells (bB r) false true))])
theorem zN(d:Nat){bF:aD}{r:List aA}(h:jT bF=some r):Spec (aY bA (d+2)) 14 [(.ptr (some (0,1)))] [(some (.cells (aU bF) false false))] (oJ bF r).1 (oJ bF r).2:=by
 unfold jT at h
 exact bR (Ej _) abo h (.z 2 [.slice none 4 0 0 true]<|.z 3 [.slice none 4 0 0 true]<|.bd λx8 q8=>Lp [Tw,none,none] [] [.slice none 4 0 0 true,.undef,.undef] (wW (d+1) q8)<|Fn none [.slice none 4 0 0 true] none)
def jM(bF:aD):Option (Int×Int×List aB×List aA) :=
 (lZ bF).bind λ(x1:List aB)=>(jT bF).bind λ(x2:List aA)=>some (bF.ID,bF.Epoch,x1,x2)
def rU(bF:aD)(r:Int×Int×List aB×List aA):AV×WH:=((.agg [(.int .i64 r.1),(.int .i64 r.2.1),(.acc 1 0 2 r.2.2.1.length true),(.acc 2 0 4 r.2.2.2.length true)]),[(some (.cells (aU bF) false false)),(some (.cells (aO r.2.2.1) false true)),(some (.cells (bB r.2.2.2) false true))])
theorem BM(d:Nat){bF:aD}{r:Int×Int×List aB×List aA}(h:jM bF=some r):Spec (aY bA (d+3)) 56 [(.ptr (some (0,0)))] [(some (.cells (aU bF) false false))] (rU bF r).1 (rU bF r).2:=by
 unfold jM at h
 exact bR nB abu h (.z 2 [.undef,.undef,.slice none 2 0 0 true,.slice none 4 0 0 true]<|.bd λx1 q1=>Cl [Fo] none [] (BK (d+0) q1)<|.bd λx2 q2=>Cl [Fo] none [] (zN (d+0) q2)<|.v 6 (.int .i64 bF.ID)<|.ob (rfl:@Eq (Option AV) (some (.int .i64 bF.ID)) (some (.int .i64 bF.ID)))<|.ob (rfl:@Eq (Option AV) (some (.int .i64 bF.ID)) (some (.int .i64 bF.ID)))<|.ob (rfl:@Eq (Option AV) (some (.int .i64 bF.ID)) (some (.int .i64 bF.ID)))<|.v 10 (.int .i64 bF.Epoch)<|.ob (rfl:@Eq (Option AV) (some (.int .i64 bF.Epoch)) (some (.int .i64 bF.Epoch)))<|.ob (rfl:@Eq (Option AV) (some (.int .i64 bF.Epoch)) (some (.int .i64 bF.Epoch)))<|.ob (rfl:@Eq (Option AV) (some (.int .i64 bF.Epoch)) (some (.int .i64 bF.Epoch)))<|.st none<|Fn none [.agg [.undef,.undef,.slice none 2 0 0 true,.slice none 4 0 0 true]] none)
def pV(p:List aB)(s5:Int×List aB):List AV×WH:=([(.ptr (some (0,0))),(.ptr (some (1,0))),(bP p),(.int .i64 (p.length:Int)),(.int .i64 s5.1)],[(some (.cells [(.acc 2 0 2 0 true)] false false)),(some (.cells [(.acc 3 0 2 s5.2.length true)] false false)),(some (.cells (aO []) false true)),(some (.cells (aO s5.2) false true))])
def tQ(p:List aB):(List aB)→Ex×Fast×WH:=λe=>((.exit 0),[(2,(.ptr (some (0,0)))),(3,(.ptr (some (1,0))))],[(some (.cells [(.acc 2 0 2 0 true)] false false)),(some (.cells [(.acc 3 0 2 e.length true)] false false)),(some (.cells (aO []) false true)),(some (.cells (aO e) false true))])
abbrev G9(p:List aB):=g_ [2,3,6,7,8] (pV p) (tQ p)
def qQ(p:List aB)(s5:Int×List aB):Option ((Int×List aB)⊕((List aB))) :=
 cond (decide (s5.1<(p.length:Int))) ((dS p s5.1).bind λ(x6:aB)=>(kg (⟨2,x6.Key,x6.Value,([]:List UInt8)⟩:bG) s5.2).bind λ(x7:aH×List aB)=>some (.inl ((IntKind.i64.wrap (s5.1+1)),x7.2))) (some (.inr s5.2))
def uZ(p:List aB)(s5:Int×List aB):Option ((List aB)):=gY (qQ p) KK s5
theorem IJ(d:Nat){p:List aB}{s5:Int×List aB}{r:(Int×List aB)⊕((List aB))}(h:qQ p s5=some r):fA (bM (aY bA (d+6)) KK 20 JV) 0 (yt [2,3,6,7,8] (pV p s5)) (G9 p r):=by
 unfold qQ at h
 exact dL nB LY h (.br 9 (λ_=>.bd λx6 q6=>Ix aR 10 q6<|.st none<|.bd λx7 q7=>U9 (xX (d+0) q7)<|E1 [2,3,6,7,8] [none,none,none,none,none] [] [.undef,.undef,.slice none 2 0 0 true,.undef,.undef]) λ_=>E0 [2,3])
theorem IK(d:Nat){p:List aB}{s5:Int×List aB}{r:(List aB)}(h:uZ p s5=some r):fA (jW (bM (aY bA (d+6)) KK 20 JV) [2,3,6,7,8] KK) 0 (yt [2,3,6,7,8] (pV p s5)) (tQ p r) :=
 iw (st:=pV p) (fin:=tQ p) (step:=qQ p) (λe=>by(intro h;cases h)) (λs x h=>IJ d h) KK s5 r h
def xZ(p:List aB):Option (List aB) :=
 (uZ p (0,[])).bind λ(x8:(List aB))=>some x8
def CY(p:List aB)(r:List aB):AV×WH:=((.agg [(.acc 0 0 2 r.length true)]),[(some (.cells (aO r) false true))])
theorem Nw(d:Nat){p:List aB}{r:List aB}(h:xZ p=some r):Spec (aY bA (d+7)) 52 [(bP p)] [] (CY p r).1 (CY p r).2:=by
 unfold xZ at h
 exact bR nB abr h (.z 2 [.slice none 2 0 0 true]<|.z 3 [.slice none 2 0 0 true]<|.bd λx8 q8=>Lp [none,none,none,none,none] [Tw,Tw,Tw,Tw] [.undef,.undef,.slice none 2 0 0 true,.undef,.undef] (IK (d+0) q8)<|.st none<|Fn none [.agg [.slice none 2 0 0 true]] none)
def yc(bN:aT):Option (Int×Int×Int×List UInt8×Int×Int×Int×List UInt8×Int×Int×Int×List UInt8×Int×Int×Int×List UInt8×Int×Int×List aB) :=
 (xZ bN.Pairs).bind λ(x1:List aB)=>(jf bN.fM).bind λ(x2:aQ)=>some (x2.l.a0.Client,x2.l.a0.Seq,x2.l.a0.Answer.Why,x2.l.a0.Answer.Value,x2.l.a1.Client,x2.l.a1.Seq,x2.l.a1.Answer.Why,x2.l.a1.Answer.Value,x2.l.a2.Client,x2.l.a2.Seq,x2.l.a2.Answer.Why,x2.l.a2.Answer.Value,x2.l.a3.Client,x2.l.a3.Seq,x2.l.a3.Answer.Why,x2.l.a3.Answer.Value,bN.jJ,bN.Epoch,x1)
def CZ(bN:aT)(r:Int×Int×Int×List UInt8×Int×Int×Int×List UInt8×Int×Int×Int×List UInt8×Int×Int×Int×List UInt8×Int×Int×List aB):AV×WH:=((.agg [(.acc 0 0 2 r.2.2.2.2.2.2.2.2.2.2.2.2.2.2.2.2.2.2.length true),(.int .i64 r.1),(.int .i64 r.2.1),(.int .i64 r.2.2.1),(.str r.2.2.2.1),(.int .i64 r.2.2.2.2.1),(.int .i64 r.2.2.2.2.2.1),(.int .i64 r.2.2.2.2.2.2.1),(.str r.2.2.2.2.2.2.2.1),(.int .i64 r.2.2.2.2.2.2.2.2.1),(.int .i64 r.2.2.2.2.2.2.2.2.2.1),(.int .i64 r.2.2.2.2.2.2.2.2.2.2.1),(.str r.2.2.2.2.2.2.2.2.2.2.2.1),(.int .i64 r.2.2.2.2.2.2.2.2.2.2.2.2.1),(.int .i64 r.2.2.2.2.2.2.2.2.2.2.2.2.2.1),(.int .i64 r.2.2.2.2.2.2.2.2.2.2.2.2.2.2.1),(.str r.2.2.2.2.2.2.2.2.2.2.2.2.2.2.2.1),(.int .i64 r.2.2.2.2.2.2.2.2.2.2.2.2.2.2.2.2.1),(.int .i64 r.2.2.2.2.2.2.2.2.2.2.2.2.2.2.2.2.2.1)]),[(some (.cells (aO r.2.2.2.2.2.2.2.2.2.2.2.2.2.2.2.2.2.2) false true))])
theorem Ny(d:Nat){bN:aT}{r:Int×Int×Int×List UInt8×Int×Int×Int×List UInt8×Int×Int×Int×List UInt8×Int×Int×Int×List UInt8×Int×Int×List aB}(h:yc bN=some r):Spec (aY bA (d+8)) 55 [(.agg (dw bN))] [] (CZ bN r).1 (CZ bN r).2:=by
 unfold yc at h
 exact bR nB abt h (.z 2 [.slice none 2 0 0 true,.undef,.undef,.undef,.undef,.undef,.undef,.undef,.undef,.undef,.undef,.undef,.undef,.undef,.undef,.undef,.undef,.undef,.undef]<|.bd λx1 q1=>Cl [Fo] none [.slice none 2 0 0 true] (Nw (d+0) q1)<|.er<|.ob (rfl:@Eq (Option AV) (some (dx bN.fM)) (some (dx bN.fM)))<|.bd λx2 q2=>Cb [.slice none 4 0 0 true] (Bw (d+5) q2)<|.st none<|Fn none [.agg [.slice none 2 0 0 true,.undef,.undef,.undef,.undef,.undef,.undef,.undef,.undef,.undef,.undef,.undef,.undef,.undef,.undef,.undef,.undef,.undef,.undef]] none)
def qR(client:Int)(seq:Int)(key:List UInt8)(value:List UInt8):Option (dH) :=
 some (⟨client,seq,(⟨2,key,value,([]:List UInt8)⟩:bG)⟩:dH)
def wI(client:Int)(seq:Int)(key:List UInt8)(value:List UInt8)(r:dH):AV×WH:=((.agg (ny r)),[])
theorem y7(d:Nat){client:Int}{seq:Int}{key:List UInt8}{value:List UInt8}{r:dH}(h:qR client seq key value=some r):Spec (aY bA (d+1)) 92 [(.int .i64 client),(.int .i64 seq),(.str key),(.str value)] [] (wI client seq key value r).1 (wI client seq key value r).2:=by
 unfold qR at h
 exact bR nB acz h (.st none<|Fn Fo [] none)
abbrev wX(client:Int)(bF:aD):Fast×WH:=([(0,(.ptr (some (0,1)))),(1,(.int .i64 client)),(4,(.ptr (some (1,0))))],[(some (.cells (aU bF) false false)),(some (.cells (bD (⟨0,0,(⟨0,([]:List UInt8)⟩:aH)⟩:aA)) false false))])
def vX(client:Int)(bF:aD):Unit⊕Unit→Ex×Fast×WH:=fun
 |.inl e=>(.ret,[(4,(.ptr (some (1,0)))),(5,(.bool false))],[(some (.cells (aU bF) false false)),(some (.cells (bD (⟨0,0,(⟨0,([]:List UInt8)⟩:aH)⟩:aA)) false false))])
 |.inr e=>(.normal,[(0,(.ptr (some (0,1)))),(1,(.int .i64 client)),(4,(.ptr (some (1,0))))],[(some (.cells (aU bF) false false)),(some (.cells (bD (⟨0,0,(⟨0,([]:List UInt8)⟩:aH)⟩:aA)) false false))])
def jg(client:Int)(bF:aD):Option (Unit⊕Unit) :=
 cond (decide (client<0)) (some (.inl ())) (cond (decide (client≥4)) (some (.inl ())) ((dS (bF.bf.l.zQ) client).bind λ(x1:aA)=>cond (x1.Seq==0) (some (.inl ())) (some (.inr ()))))
theorem oK(d:Nat){client:Int}{bF:aD}{r:Unit⊕Unit}(h:jg client bF=some r):fA (bM (aY bA (d+0)) KK 29 RV) 1 (wX client bF) (vX client bF r):=by
 unfold jg at h
 exact dL nB QH h (.br 8 (λ_=>.st none<|E0 [4,5]) λ_=>.br 12 (λ_=>.st none<|E0 [4,5]) λ_=>.bd λx1 q1=>.v 17 (.ptr (some (0,1+client.toNat*4)))<|.ob (GR q1 rfl:wP (.l5 4 4 (.c (.ptr (some (0,1)))) (.c (.int .i64 client)))=some (.ptr (some (0,1+client.toNat*4))))<|.v 19 (.int .i64 x1.Seq)<|.ob (M_ (p:=1) (o:=1) bQ q1 rfl rfl:qB false (1+client.toNat*4+1) 1 (aU bF)=some (.int .i64 x1.Seq))<|.br 21 (λ_=>.st none<|E0 [4,5]) λ_=>E0 [0,1,4])
def gT(client:Int)(bF:aD):Option (aA×Bool) :=
 (jg client bF).bind λ(x2:Unit⊕Unit)=>cond (nV x2) (some ((⟨0,0,(⟨0,([]:List UInt8)⟩:aH)⟩:aA),false)) ((dS (bF.bf.l.zQ) client).bind λ(x4:aA)=>some (x4,true))
def qd(client:Int)(bF:aD)(r:aA×Bool):AV×WH:=((.tuple [(.agg (bD r.1)),(.bool r.2)]),[(some (.cells (aU bF) false false))])
theorem rV(d:Nat){client:Int}{bF:aD}{r:aA×Bool}(h:gT client bF=some r):Spec (aY bA (d+1)) 99 [(.ptr (some (0,1))),(.int .i64 client)] [(some (.cells (aU bF) false false))] (qd client bF r).1 (qd client bF r).2:=by
 unfold gT at h
 exact bR nB acG h (.sk<|.bd λx2 q2=>.ite (λhb3=>Jn [0,1,4] [none,none,none] [] [] (wC (il hb3) (oK (d+0) q2))<|Fn Fo [] none) λhb3=>Jn [0,1,4] [none,none,none] [] [] (wC (Iq hb3) (oK (d+0) q2))<|.bd λx4 q4=>.v 27 (.ptr (some (0,1+client.toNat*4)))<|.ob (GR q4 rfl:wP (.l5 4 4 (.c (.ptr (some (0,1)))) (.c (.int .i64 client)))=some (.ptr (some (0,1+client.toNat*4))))<|.v 28 (.agg (bD x4))<|.ob (M_ (p:=1) (o:=0) bQ q4 rfl rfl:qB true (1+client.toNat*4) 4 (aU bF)=some (.agg (bD x4)))<|.st none<|Fn Fo [] none)
def mQ(key:List UInt8)(t:aD):Option (Int×Bool) :=
 (bX t.Table.l key).bind λ(x1:Int×Bool)=>some (x1.1,x1.2)
def tT(key:List UInt8)(t:aD)(r:Int×Bool):AV×WH:=((.tuple [(.int .i64 r.1),(.bool r.2)]),[(some (.cells (aU t) false false))])
theorem C8(d:Nat){key:List UInt8}{t:aD}{r:Int×Bool}(h:mQ key t=some r):Spec (aY bA (d+5)) 82 [(.ptr (some (0,0))),(.str key)] [(some (.cells (aU t) false false))] (tT key t r).1 (tT key t r).2:=by
 unfold mQ at h
 exact bR nB abw h (.bd λx1 q1=>Cb [.slice none 2 0 0 true] (gu (d+0) q1)<|Fn Fo [] none)
def jB(k:Int)(value:List UInt8)(t:aD):Option (Int×Int×Int×List UInt8×Int×Int×Int×List UInt8×Int×Int×Int×List UInt8×Int×Int×Int×List UInt8×Int×Int×List aB) :=
 gd (fu 32 t.Table.l.length) ((dS t.Table.l k).bind λ(x2:aB)=>some (t.bf.l.a0.Client,t.bf.l.a0.Seq,t.bf.l.a0.Answer.Why,t.bf.l.a0.Answer.Value,t.bf.l.a1.Client,t.bf.l.a1.Seq,t.bf.l.a1.Answer.Why,t.bf.l.a1.Answer.Value,t.bf.l.a2.Client,t.bf.l.a2.Seq,t.bf.l.a2.Answer.Why,t.bf.l.a2.Answer.Value,t.bf.l.a3.Client,t.bf.l.a3.Seq,t.bf.l.a3.Answer.Why,t.bf.l.a3.Answer.Value,t.ID,t.Epoch,(t.Table.l.set k.toNat (⟨x2.Key,value⟩:aB))))
def gU(k:Int)(value:List UInt8)(t:aD)(r:Int×Int×Int×List UInt8×Int×Int×Int×List UInt8×Int×Int×Int×List UInt8×Int×Int×Int×List UInt8×Int×Int×List aB):AV×WH:=((.tuple []),[(some (.cells [(.acc 1 0 2 r.2.2.2.2.2.2.2.2.2.2.2.2.2.2.2.2.2.2.length true),(.int .i64 r.1),(.int .i64 r.2.1),(.int .i64 r.2.2.1),(.str r.2.2.2.1),(.int .i64 r.2.2.2.2.1),(.int .i64 r.2.2.2.2.2.1),(.int .i64 r.2.2.2.2.2.2.1),(.str r.2.2.2.2.2.2.2.1),(.int .i64 r.2.2.2.2.2.2.2.2.1),(.int .i64 r.2.2.2.2.2.2.2.2.2.1),(.int .i64 r.2.2.2.2.2.2.2.2.2.2.1),(.str r.2.2.2.2.2.2.2.2.2.2.2.1),(.int .i64 r.2.2.2.2.2.2.2.2.2.2.2.2.1),(.int .i64 r.2.2.2.2.2.2.2.2.2.2.2.2.2.1),(.int .i64 r.2.2.2.2.2.2.2.2.2.2.2.2.2.2.1),(.str r.2.2.2.2.2.2.2.2.2.2.2.2.2.2.2.1),(.int .i64 r.2.2.2.2.2.2.2.2.2.2.2.2.2.2.2.2.1),(.int .i64 r.2.2.2.2.2.2.2.2.2.2.2.2.2.2.2.2.2.1)] false false)),(some (.cells (aO r.2.2.2.2.2.2.2.2.2.2.2.2.2.2.2.2.2.2) false true))])
theorem wJ(d:Nat){k:Int}{value:List UInt8}{t:aD}{r:Int×Int×Int×List UInt8×Int×Int×Int×List UInt8×Int×Int×Int×List UInt8×Int×Int×Int×List UInt8×Int×Int×List aB}(h:jB k value t=some r):Spec (aY bA (d+2)) 112 [(.ptr (some (0,0))),(.int .i64 k),(.str value)] [(some (.cells (aU t) false false))] (gU k value t r).1 (gU k value t r).2:=by
 unfold jB at h
 exact bR (Ej _) Z7 h (.gd λq1=>.ob q1<|.st none<|.bd λx2 q2=>Ia aR 20 1 q2<|.st (some (aO (t.Table.l.set k.toNat (⟨x2.Key,value⟩:aB))))<|.ob (zu (o:=1) aR q2 rfl:H6 (aO t.Table.l) (0+k.toNat*2+1) [(.str value)]=some (aO (t.Table.l.set k.toNat (⟨x2.Key,value⟩:aB))))<|.Bo (.fin (some false) [] none) _ (λr=>@Eq AV (.tuple []) (gU k value t r).1∧@Eq WH [(some (.cells [(.acc 1 0 2 t.Table.l.length true),(.int .i64 t.bf.l.a0.Client),(.int .i64 t.bf.l.a0.Seq),(.int .i64 t.bf.l.a0.Answer.Why),(.str t.bf.l.a0.Answer.Value),(.int .i64 t.bf.l.a1.Client),(.int .i64 t.bf.l.a1.Seq),(.int .i64 t.bf.l.a1.Answer.Why),(.str t.bf.l.a1.Answer.Value),(.int .i64 t.bf.l.a2.Client),(.int .i64 t.bf.l.a2.Seq),(.int .i64 t.bf.l.a2.Answer.Why),(.str t.bf.l.a2.Answer.Value),(.int .i64 t.bf.l.a3.Client),(.int .i64 t.bf.l.a3.Seq),(.int .i64 t.bf.l.a3.Answer.Why),(.str t.bf.l.a3.Answer.Value),(.int .i64 t.ID),(.int .i64 t.Epoch)] false false)),(some (.cells (aO (t.Table.l.set k.toNat (⟨x2.Key,value⟩:aB))) false true))] (gU k value t r).2) (by show _∧_;(try rw[show AV.list 2 t.Table.l.length (aO (t.Table.l.set k.toNat (⟨x2.Key,value⟩:aB))) false=bP (t.Table.l.set k.toNat (⟨x2.Key,value⟩:aB))from by simp only[bP,bO]]);refine⟨?_, ?_⟩<;>first | rfl |(simp only[gU,bO,aJ,List.length_replicate,bZ,fJ,aV,aS,Nat.add_zero,Nat.zero_add];done) | simp[gU]))
def nN(o:bG)(k:Int)(had:Bool)(t:aD):Option (aH×aD) :=
 cond had ((jB k o.Value t).bind λ(x1:Int×Int×Int×List UInt8×Int×Int×Int×List UInt8×Int×Int×Int×List UInt8×Int×Int×Int×List UInt8×Int×Int×List aB)=>some ((⟨0,([]:List UInt8)⟩:aH),(⟨(⟨x1.2.2.2.2.2.2.2.2.2.2.2.2.2.2.2.2.2.2⟩:gq),(⟨(⟨(⟨x1.1,x1.2.1,(⟨x1.2.2.1,x1.2.2.2.1⟩:aH)⟩:aA),(⟨x1.2.2.2.2.1,x1.2.2.2.2.2.1,(⟨x1.2.2.2.2.2.2.1,x1.2.2.2.2.2.2.2.1⟩:aH)⟩:aA),(⟨x1.2.2.2.2.2.2.2.2.1,x1.2.2.2.2.2.2.2.2.2.1,(⟨x1.2.2.2.2.2.2.2.2.2.2.1,x1.2.2.2.2.2.2.2.2.2.2.2.1⟩:aH)⟩:aA),(⟨x1.2.2.2.2.2.2.2.2.2.2.2.2.1,x1.2.2.2.2.2.2.2.2.2.2.2.2.2.1,(⟨x1.2.2.2.2.2.2.2.2.2.2.2.2.2.2.1,x1.2.2.2.2.2.2.2.2.2.2.2.2.2.2.2.1⟩:aH)⟩:aA)⟩:A4 aA)⟩:aQ),x1.2.2.2.2.2.2.2.2.2.2.2.2.2.2.2.2.1,x1.2.2.2.2.2.2.2.2.2.2.2.2.2.2.2.2.2.1⟩:aD))) (cond ((t.Table.l.length:Int)==8) (some ((⟨5,([]:List UInt8)⟩:aH),t)) (gd (fu 32 t.Table.l.length) (gd (M9 32 k t.Table.l.length) (some ((⟨0,([]:List UInt8)⟩:aH),(⟨(⟨(vS t.Table.l k (⟨o.Key,o.Value⟩:aB))⟩:gq),t.bf,t.ID,t.Epoch⟩:aD))))))
def uE(o:bG)(k:Int)(had:Bool)(t:aD)(r:aH×aD):AV×WH:=((.agg (cu r.1)),[(some (.cells (aU r.2) false false))])
theorem DV(d:Nat){o:bG}{k:Int}{had:Bool}{t:aD}{r:aH×aD}(h:nN o k had t=some r):Spec (aY bA (d+3)) 83 [(.ptr (some (0,0))),(.agg (dU o)),(.int .i64 k),(.bool had)] [(some (.cells (aU t) false false))] (uE o k had t r).1 (uE o k had t r).2:=by
 unfold nN at h
 exact bR (Ej _) abx h (.br 25 (λ_=>.bd λx1 q1=>Cl [] Fo [] (wJ (d+0) q1)<|.st none<|Fn Fo [] Fo) λ_=>.br 32 (λ_=>.st none<|Fn Fo [] Fo) λ_=>.gd λq2=>.ob q2<|.gd λq3=>.ob (Qh q3:(0≤k∧k≤((t.Table.l.length:Nat):Int)))<|.ap 22 (vS t.Table.l k (⟨o.Key,o.Value⟩:aB)).length (aO (vS t.Table.l k (⟨o.Key,o.Value⟩:aB)))<|.ob (Qi (l:=t.Table.l) q3:t.Table.l.length+1=(vS t.Table.l k (⟨o.Key,o.Value⟩:aB)).length)<|.ob (RH aR rfl:(aO t.Table.l).take (k.toNat*2)++([(.str o.Key),(.str o.Value)]++(aO t.Table.l).drop (k.toNat*2))=aO (vS t.Table.l k (⟨o.Key,o.Value⟩:aB)))<|.ob (U5 (l:=t.Table.l) q3:fu 32 (vS t.Table.l k (⟨o.Key,o.Value⟩:aB)).length=true)<|.st none<|.st none<|Fn Fo [] Fo)
def nO(o:bG)(k:Int)(t:aD):Option (aH×aD) :=
 (dS t.Table.l k).bind λ(x1:aB)=>cond (!(x1.Value==o.Old)) (some ((⟨6,x1.Value⟩:aH),t)) ((jB k o.Value t).bind λ(x2:Int×Int×Int×List UInt8×Int×Int×Int×List UInt8×Int×Int×Int×List UInt8×Int×Int×Int×List UInt8×Int×Int×List aB)=>some ((⟨0,([]:List UInt8)⟩:aH),(⟨(⟨x2.2.2.2.2.2.2.2.2.2.2.2.2.2.2.2.2.2.2⟩:gq),(⟨(⟨(⟨x2.1,x2.2.1,(⟨x2.2.2.1,x2.2.2.2.1⟩:aH)⟩:aA),(⟨x2.2.2.2.2.1,x2.2.2.2.2.2.1,(⟨x2.2.2.2.2.2.2.1,x2.2.2.2.2.2.2.2.1⟩:aH)⟩:aA),(⟨x2.2.2.2.2.2.2.2.2.1,x2.2.2.2.2.2.2.2.2.2.1,(⟨x2.2.2.2.2.2.2.2.2.2.2.1,x2.2.2.2.2.2.2.2.2.2.2.2.1⟩:aH)⟩:aA),(⟨x2.2.2.2.2.2.2.2.2.2.2.2.2.1,x2.2.2.2.2.2.2.2.2.2.2.2.2.2.1,(⟨x2.2.2.2.2.2.2.2.2.2.2.2.2.2.2.1,x2.2.2.2.2.2.2.2.2.2.2.2.2.2.2.2.1⟩:aH)⟩:aA)⟩:A4 aA)⟩:aQ),x2.2.2.2.2.2.2.2.2.2.2.2.2.2.2.2.2.1,x2.2.2.2.2.2.2.2.2.2.2.2.2.2.2.2.2.2.1⟩:aD)))
def uF(o:bG)(k:Int)(t:aD)(r:aH×aD):AV×WH:=((.agg (cu r.1)),[(some (.cells (aU r.2) false false))])
theorem DW(d:Nat){o:bG}{k:Int}{t:aD}{r:aH×aD}(h:nO o k t=some r):Spec (aY bA (d+3)) 84 [(.ptr (some (0,0))),(.agg (dU o)),(.int .i64 k)] [(some (.cells (aU t) false false))] (uF o k t r).1 (uF o k t r).2:=by
 unfold nO at h
 exact bR nB aby h (.bd λx1 q1=>Ix aR 13 q1<|.br 19 (λ_=>.st none<|Fn Fo [] Fo) λ_=>.bd λx2 q2=>Cl [] Fo [] (wJ (d+0) q2)<|.st none<|Fn Fo [] Fo)
def kr(o:bG)(t:aD):Option (aH×aD) :=
 (mF o).bind λ(x1:Bool)=>cond (!x1) (some ((⟨1,([]:List UInt8)⟩:aH),t)) ((mQ o.Key t).bind λ(x2:Int×Bool)=>cond (o.Kind==2) ((nN o x2.1 x2.2 t).bind λ(x3:aH×aD)=>some (x3.1,x3.2)) (cond (!x2.2) (some ((⟨4,([]:List UInt8)⟩:aH),t)) (cond (o.Kind==1) ((dS t.Table.l x2.1).bind λ(x4:aB)=>some ((⟨0,x4.Value⟩:aH),t)) (cond (o.Kind==4) ((nO o x2.1 t).bind λ(x5:aH×aD)=>some (x5.1,x5.2)) (gd (fu 32 t.Table.l.length) (gd (SH x2.1 (IntKind.i64.wrap (x2.1+1)) t.Table.l.length) (some ((⟨0,([]:List UInt8)⟩:aH),(⟨(⟨(zw t.Table.l x2.1 (IntKind.i64.wrap (x2.1+1)))⟩:gq),t.bf,t.ID,t.Epoch⟩:aD)))))))))
def vJ(o:bG)(t:aD)(r:aH×aD):AV×WH:=((.agg (cu r.1)),[(some (.cells (aU r.2) false false))])
theorem yg(d:Nat){o:bG}{t:aD}{r:aH×aD}(h:kr o t=some r):Spec (aY bA (d+6)) 46 [(.ptr (some (0,0))),(.agg (dU o))] [(some (.cells (aU t) false false))] (vJ o t r).1 (vJ o t r).2:=by
 unfold kr at h
 exact bR (Ej _) abp h (.bd λx1 q1=>wT (uY (d+4) q1)<|.br 9 (λ_=>.st none<|Fn Fo [] Fo) λ_=>.bd λx2 q2=>Cl [] Fo [] (C8 (d+0) q2)<|.br 18 (λ_=>.bd λx3 q3=>Cl [] Fo [] (DV (d+2) q3)<|.st none<|Fn Fo [] Fo) λ_=>.br 27 (λ_=>.st none<|Fn Fo [] Fo) λ_=>.br 31 (λ_=>.bd λx4 q4=>Ix aR 40 q4<|.st none<|Fn Fo [] Fo) λ_=>.br 44 (λ_=>.bd λx5 q5=>Cl [] Fo [] (DW (d+2) q5)<|.st none<|Fn Fo [] Fo) λ_=>.gd λq6=>.ob q6<|.gd λq7=>.ob (Qj q7:(0≤x2.1∧x2.1<(IntKind.i64.wrap (x2.1+1))∧(IntKind.i64.wrap (x2.1+1))≤((t.Table.l.length:Nat):Int)))<|.ap 61 (zw t.Table.l x2.1 (IntKind.i64.wrap (x2.1+1))).length (aO (zw t.Table.l x2.1 (IntKind.i64.wrap (x2.1+1))))<|.ob (U6 (l:=t.Table.l) q7:t.Table.l.length-((IntKind.i64.wrap (x2.1+1)).toNat-x2.1.toNat)=(zw t.Table.l x2.1 (IntKind.i64.wrap (x2.1+1))).length)<|.ob (RI aR:(aO t.Table.l).take (x2.1.toNat*2)++(aO t.Table.l).drop ((IntKind.i64.wrap (x2.1+1)).toNat*2)=aO (zw t.Table.l x2.1 (IntKind.i64.wrap (x2.1+1))))<|.st none<|.st none<|Fn Fo [] Fo)
abbrev vK(bN:aA)(bF:aD):Fast×WH:=([(0,(.ptr (some (0,1)))),(3,(.ptr (some (1,0))))],[(some (.cells (aU bF) false false)),(some (.cells (bD bN) false false))])
def uP(bN:aA)(bF:aD):Unit⊕Unit→Ex×Fast×WH:=fun
 |.inl e=>(.ret,[(4,(.bool false))],[(some (.cells (aU bF) false false))])
 |.inr e=>(.normal,[(0,(.ptr (some (0,1)))),(3,(.ptr (some (1,0))))],[(some (.cells (aU bF) false false)),(some (.cells (bD bN) false false))])
def iI(bN:aA)(bF:aD):Option (Unit⊕Unit) :=
 cond (decide (bN.Client<0)) (some (.inl ())) (cond (decide (bN.Client≥4)) (some (.inl ())) (cond (decide (bN.Seq<1)) (some (.inl ())) ((dS (bF.bf.l.zQ) bN.Client).bind λ(x1:aA)=>cond (decide (bN.Seq≤x1.Seq)) (some (.inl ())) (some (.inr ())))))
theorem m_(d:Nat){bN:aA}{bF:aD}{r:Unit⊕Unit}(h:iI bN bF=some r):fA (bM (aY bA (d+0)) KK 38 Ng) 1 (vK bN bF) (uP bN bF r):=by
 unfold iI at h
 exact dL nB JR h (.br 8 (λ_=>E0 [4]) λ_=>.br 13 (λ_=>E0 [4]) λ_=>.br 18 (λ_=>E0 [4]) λ_=>.bd λx1 q1=>.v 26 (.ptr (some (0,1+bN.Client.toNat*4)))<|.ob (GR q1 rfl:wP (.l5 4 4 (.c (.ptr (some (0,1)))) (.c (.int .i64 bN.Client)))=some (.ptr (some (0,1+bN.Client.toNat*4))))<|.v 28 (.int .i64 x1.Seq)<|.ob (M_ (p:=1) (o:=1) bQ q1 rfl rfl:qB false (1+bN.Client.toNat*4+1) 1 (aU bF)=some (.int .i64 x1.Seq))<|.br 30 (λ_=>E0 [4]) λ_=>E0 [0,3])
def fZ(bN:aA)(bF:aD):Option (Bool×aD) :=
 (iI bN bF).bind λ(x2:Unit⊕Unit)=>cond (nV x2) (some (false,bF)) ((dS (bF.bf.l.zQ) bN.Client).bind λ(x4:aA)=>some (true,(⟨bF.Table,(⟨(bF.bf.l.set bN.Client bN)⟩:aQ),bF.ID,bF.Epoch⟩:aD)))
def nP(bN:aA)(bF:aD)(r:Bool×aD):AV×WH:=((.bool r.1),[(some (.cells (aU r.2) false false))])
theorem qg(d:Nat){bN:aA}{bF:aD}{r:Bool×aD}(h:fZ bN bF=some r):Spec (aY bA (d+1)) 13 [(.ptr (some (0,1))),(.agg (bD bN))] [(some (.cells (aU bF) false false))] (nP bN bF r).1 (nP bN bF r).2:=by
 unfold fZ at h
 exact bR nB abn h (.sk<|.bd λx2 q2=>.ite (λhb3=>Jn [0,3] [none,none] [] [] (wC (il hb3) (m_ (d+0) q2))<|Fn Fo [] none) λhb3=>Jn [0,3] [none,none] [] [] (wC (Iq hb3) (m_ (d+0) q2))<|.bd λx4 q4=>.v 37 (.ptr (some (0,1+bN.Client.toNat*4)))<|.ob (GR q4 rfl:wP (.l5 4 4 (.c (.ptr (some (0,1)))) (.c (.int .i64 bN.Client)))=some (.ptr (some (0,1+bN.Client.toNat*4))))<|.st (some (aU (⟨bF.Table,(⟨(bF.bf.l.set bN.Client bN)⟩:aQ),bF.ID,bF.Epoch⟩:aD)))<|.ob (U7 (p:=1) (o:=0) bQ q4 (A4.RJ _ q4) rfl (Nat.le_of_ble_eq_true rfl) rfl rfl:H6 (aU bF) (1+bN.Client.toNat*4) [(.int .i64 bN.Client),(.int .i64 bN.Seq),(.int .i64 bN.Answer.Why),(.str bN.Answer.Value)]=some (aU (⟨bF.Table,(⟨(bF.bf.l.set bN.Client bN)⟩:aQ),bF.ID,bF.Epoch⟩:aD)))<|Fn Fo [] none)
abbrev BN(p_r:dH)(bF:aD):Fast×WH:=([(0,(.ptr (some (0,0)))),(3,(.ptr (some (1,0)))),(4,(.ptr (some (2,0))))],[(some (.cells (aU bF) false false)),(some (.cells (ny p_r) false false)),(some (.cells (cu (⟨0,([]:List UInt8)⟩:aH)) false false))])
def Bc(p_r:dH)(bF:aD):Unit⊕Unit→Ex×Fast×WH:=fun
 |.inl e=>(.ret,[(4,(.ptr (some (1,0)))),(5,(.bool false))],[(some (.cells (aU bF) false false)),(some (.cells (cu (⟨1,([]:List UInt8)⟩:aH)) false false))])
 |.inr e=>(.normal,[(0,(.ptr (some (0,0)))),(3,(.ptr (some (1,0)))),(4,(.ptr (some (2,0))))],[(some (.cells (aU bF) false false)),(some (.cells (ny p_r) false false)),(some (.cells (cu (⟨0,([]:List UInt8)⟩:aH)) false false))])
def kF(p_r:dH)(bF:aD):Option (Unit⊕Unit) :=
 cond (decide (p_r.Client<0)) (some (.inl ())) (cond (decide (p_r.Client≥4)) (some (.inl ())) (cond (decide (p_r.Seq<1)) (some (.inl ())) (cond (decide (p_r.Seq>4611686018427387903)) (some (.inl ())) ((mF p_r.Op).bind λ(x1:Bool)=>cond (!x1) (some (.inl ())) (some (.inr ()))))))
theorem vL(d:Nat){p_r:dH}{bF:aD}{r:Unit⊕Unit}(h:kF p_r bF=some r):fA (bM (aY bA (d+1)) KK 74 Nj) 1 (BN p_r bF) (Bc p_r bF r):=by
 unfold kF at h
 exact dL nB JW h (.br 11 (λ_=>.st none<|E0 [4,5]) λ_=>.br 16 (λ_=>.st none<|E0 [4,5]) λ_=>.br 21 (λ_=>.st none<|E0 [4,5]) λ_=>.br 26 (λ_=>.st none<|E0 [4,5]) λ_=>.bd λx1 q1=>wT (uY (d+0) q1)<|.br 31 (λ_=>.st none<|E0 [4,5]) λ_=>E0 [0,3,4])
def iK(p_r:dH)(bF:aD):Option (aH×Bool×aD) :=
 (kF p_r bF).bind λ(x2:Unit⊕Unit)=>cond (nV x2) (some ((⟨1,([]:List UInt8)⟩:aH),false,bF)) ((gT p_r.Client bF).bind λ(x4:aA×Bool)=>cond (p_r.Seq==x4.1.Seq) (some (x4.1.Answer,false,bF)) (cond (decide (p_r.Seq<x4.1.Seq)) (some ((⟨9,([]:List UInt8)⟩:aH),false,bF)) ((kr p_r.Op bF).bind λ(x5:aH×aD)=>(fZ (⟨p_r.Client,p_r.Seq,x5.1⟩:aA) x5.2).bind λ(x6:Bool×aD)=>some (x5.1,true,x6.2))))
def wM(p_r:dH)(bF:aD)(r:aH×Bool×aD):AV×WH:=((.tuple [(.agg (cu r.1)),(.bool r.2.1)]),[(some (.cells (aU r.2.2) false false))])
theorem tV(d:Nat){p_r:dH}{bF:aD}{r:aH×Bool×aD}(h:iK p_r bF=some r):Spec (aY bA (d+7)) 62 [(.ptr (some (0,0))),(.agg (ny p_r))] [(some (.cells (aU bF) false false))] (wM p_r bF r).1 (wM p_r bF r).2:=by
 unfold iK at h
 exact bR nB abv h (.sk<|.bd λx2 q2=>.ite (λhb3=>Jn [0,3,4] [none,none,none] [] [] (wC (il hb3) (vL (d+5) q2))<|Fn Fo [] none) λhb3=>Jn [0,3,4] [none,none,none] [] [] (wC (Iq hb3) (vL (d+5) q2))<|.bd λx4 q4=>Cl [] Fo [] (rV (d+5) q4)<|.st none<|.br 42 (λ_=>.st none<|Fn Fo [] none) λ_=>.br 50 (λ_=>.st none<|Fn Fo [] none) λ_=>.bd λx5 q5=>Cl [] Fo [] (yg (d+0) q5)<|.st none<|.bd λx6 q6=>Cl [] Fo [] (qg (d+5) q6)<|.st none<|Fn Fo [] none)
def ng(t:aD):Option (Int) :=
 some (t.Table.l.length:Int)
def wO(t:aD)(r:Int):AV×WH:=((.int .i64 r),[(some (.cells (aU t) false false))])
theorem y8(d:Nat){t:aD}{r:Int}(h:ng t=some r):Spec (aY bA (d+1)) 47 [(.ptr (some (0,0)))] [(some (.cells (aU t) false false))] (wO t r).1 (wO t r).2:=by
 unfold ng at h
 exact bR nB acd h (Fn Fo [] none)
def kG(bF:aD):Option (Int) :=
 (ng bF).bind λ(x1:Int)=>some (IntKind.i64.wrap (x1+1))
def tX(bF:aD)(r:Int):AV×WH:=((.int .i64 r),[(some (.cells (aU bF) false false))])
theorem vM(d:Nat){bF:aD}{r:Int}(h:kG bF=some r):Spec (aY bA (d+2)) 60 [(.ptr (some (0,0)))] [(some (.cells (aU bF) false false))] (tX bF r).1 (tX bF r).2:=by
 unfold kG at h
 exact bR nB acp h (.bd λx1 q1=>Cl [] Fo [] (y8 (d+0) q1)<|Fn Fo [] none)
def nQ :Option (Bool) :=
 (tN (⟨2,3,[],[]⟩:aT)).bind λ(x1:aD)=>(qR 0 1 [107] [118]).bind λ(x2:dH)=>(iK x2 x1).bind λ(x3:aH×Bool×aD)=>(qR 0 1 [107] ([111,116,104,101,114])).bind λ(x4:dH)=>(iK x4 x3.2.2).bind λ(x5:aH×Bool×aD)=>cond (x3.1.Why==x5.1.Why&&(x3.1.Value==x5.1.Value&&true)) (cond x3.2.1 (cond (!x5.2.1) ((kG x5.2.2).bind λ(x6:Int)=>cond (x6==2) (cond (x5.2.2.ID==2) (cond (x5.2.2.Epoch==3) ((ng x5.2.2).bind λ(x7:Int)=>some (x7==1)) (some false)) (some false)) (some false)) (some false)) (some false)) (some false)
def uG(r:Bool):AV×WH:=((.bool r),[])
theorem DX(d:Nat) {r:Bool}(h:nQ=some r):Spec (aY bA (d+9)) 57 [] [] (uG r).1 (uG r).2:=by
 unfold nQ at h
 exact bR nB ach h (.z 6 [.agg [.undef,.undef,.slice none 2 0 0 true,.slice none 4 0 0 true]]<|.bd λx1 q1=>Cl [] Fo [.agg [.undef,.undef,.slice none 2 0 0 true,.slice none 4 0 0 true]] (ER (d+0) q1)<|.z 1 [.slice none 2 0 0 true,.undef,.undef,.undef,.undef,.undef,.undef,.undef,.undef,.undef,.undef,.undef,.undef,.undef,.undef,.undef,.undef,.undef,.undef]<|.st none<|.bd λx2 q2=>wT (y7 (d+7) q2)<|.bd λx3 q3=>Cl [] Fo [] (tV (d+1) q3)<|.st none<|.bd λx4 q4=>wT (y7 (d+7) q4)<|.bd λx5 q5=>Cl [] Fo [] (tV (d+1) q5)<|.st none<|.br 21 (λ_=>.br 24 (λ_=>.br 28 (λ_=>.bd λx6 q6=>Cl [] Fo [] (vM (d+6) q6)<|.br 32 (λ_=>.br 37 (λ_=>.br 42 (λ_=>.bd λx7 q7=>Cl [] Fo [] (y8 (d+7) q7)<|Fn Fo [] none) λ_=>Fn Fo [] none) λ_=>Fn Fo [] none) λ_=>Fn Fo [] none) λ_=>Fn Fo [] none) λ_=>Fn Fo [] none) λ_=>Fn Fo [] none)
def eU(a0:List aB)(a1:List aB)(s3:Int):List AV×WH:=([(bP a0),(bP a1),(.int .i64 (a0.length:Int)),(.int .i64 s3)],[])
def gH(a0:List aB)(a1:List aB):Unit⊕Unit→Ex×Fast×WH:=fun
 |.inl e=>(.ret,[(4,(.bool false))],[])
 |.inr e=>((.exit 0),[],[])
abbrev qm(a0:List aB)(a1:List aB):=g_ [0,1,12,13] (eU a0 a1) (gH a0 a1)
def dV(a0:List aB)(a1:List aB)(s3:Int):Option ((Int)⊕(Unit⊕Unit)) :=
 cond (decide (s3<(a0.length:Int))) ((dS a0 s3).bind λ(x4:aB)=>(dS a1 s3).bind λ(x5:aB)=>cond (!(x4.Key==x5.Key&&(x4.Value==x5.Value&&true))) (some (.inr (.inl ()))) (some (.inl (IntKind.i64.wrap (s3+1))))) (some (.inr (.inr ())))
def iD(a0:List aB)(a1:List aB)(s3:Int):Option (Unit⊕Unit):=gY (dV a0 a1) KK s3
theorem qL(d:Nat){a0:List aB}{a1:List aB}{s3:Int}{r:(Int)⊕(Unit⊕Unit)}(h:dV a0 a1 s3=some r):fA (bM (aY bA (d+0)) KK 26 QF) 0 (yt [0,1,12,13] (eU a0 a1 s3)) (qm a0 a1 r):=by
 unfold dV at h
 exact dL nB Ti h (.br 14 (λ_=>.bd λx4 q4=>Ix aR 18 q4<|.bd λx5 q5=>Ix aR 22 q5<|.br 24 (λ_=>E0 [4]) λ_=>E1 [0,1,12,13] [none,none,none,none] [] [.slice none 2 0 0 true,.slice none 2 0 0 true,.undef,.undef]) λ_=>E0 [])
theorem jX(d:Nat){a0:List aB}{a1:List aB}{s3:Int}{r:Unit⊕Unit}(h:iD a0 a1 s3=some r):fA (jW (bM (aY bA (d+0)) KK 26 QF) [0,1,12,13] KK) 0 (yt [0,1,12,13] (eU a0 a1 s3)) (gH a0 a1 r) :=
 iw (st:=eU a0 a1) (fin:=gH a0 a1) (step:=dV a0 a1) (λe=>by rcases e with e | e<;>(intro h;cases h)) (λs x h=>qL d h) KK s3 r h
def eY(a0:List aB)(a1:List aB):Option (Bool) :=
 cond ((a0.length:Int) != (a1.length:Int)) (some false) ((iD a0 a1 0).bind λ(x6:Unit⊕Unit)=>cond (nV x6) (some false) (some true))
def kH(a0:List aB)(a1:List aB)(r:Bool):AV×WH:=((.bool r),[])
theorem tY(d:Nat){a0:List aB}{a1:List aB}{r:Bool}(h:eY a0 a1=some r):Spec (aY bA (d+1)) 93 [(bP a0),(bP a1)] [] (kH a0 a1 r).1 (kH a0 a1 r).2:=by
 unfold eY at h
 exact bR nB acA h (.br 10 (λ_=>Fn Fo [] none) λ_=>.bd λx6 q6=>.ite (λGY=>Lp [none,none,none,none] [] [.slice none 2 0 0 true,.slice none 2 0 0 true,.undef,.undef] (wC (il GY) (jX (d+0) q6))<|Fn Fo [] none) λGY=>Lp [none,none,none,none] [] [.slice none 2 0 0 true,.slice none 2 0 0 true,.undef,.undef] (wC (Iq GY) (jX (d+0) q6))<|Fn Fo [] none)
def eX(a0:List aA)(a1:List aA)(s3:Int):List AV×WH:=([(dx a0),(dx a1),(.int .i64 (a0.length:Int)),(.int .i64 s3)],[])
def gI(a0:List aA)(a1:List aA):Unit⊕Unit→Ex×Fast×WH:=fun
 |.inl e=>(.ret,[(4,(.bool false))],[])
 |.inr e=>((.exit 0),[],[])
abbrev qo(a0:List aA)(a1:List aA):=g_ [0,1,12,13] (eX a0 a1) (gI a0 a1)
def dW(a0:List aA)(a1:List aA)(s3:Int):Option ((Int)⊕(Unit⊕Unit)) :=
 cond (decide (s3<(a0.length:Int))) ((dS a0 s3).bind λ(x4:aA)=>(dS a1 s3).bind λ(x5:aA)=>cond (!(x4.Client==x5.Client&&(x4.Seq==x5.Seq&&(x4.Answer.Why==x5.Answer.Why&&(x4.Answer.Value==x5.Answer.Value&&true))))) (some (.inr (.inl ()))) (some (.inl (IntKind.i64.wrap (s3+1))))) (some (.inr (.inr ())))
def iE(a0:List aA)(a1:List aA)(s3:Int):Option (Unit⊕Unit):=gY (dW a0 a1) KK s3
theorem qM(d:Nat){a0:List aA}{a1:List aA}{s3:Int}{r:(Int)⊕(Unit⊕Unit)}(h:dW a0 a1 s3=some r):fA (bM (aY bA (d+0)) KK 26 QG) 0 (yt [0,1,12,13] (eX a0 a1 s3)) (qo a0 a1 r):=by
 unfold dW at h
 exact dL nB Tk h (.br 14 (λ_=>.bd λx4 q4=>Ix bQ 18 q4<|.bd λx5 q5=>Ix bQ 22 q5<|.br 24 (λ_=>E0 [4]) λ_=>E1 [0,1,12,13] [none,none,none,none] [] [.slice none 4 0 0 true,.slice none 4 0 0 true,.undef,.undef]) λ_=>E0 [])
theorem jY(d:Nat){a0:List aA}{a1:List aA}{s3:Int}{r:Unit⊕Unit}(h:iE a0 a1 s3=some r):fA (jW (bM (aY bA (d+0)) KK 26 QG) [0,1,12,13] KK) 0 (yt [0,1,12,13] (eX a0 a1 s3)) (gI a0 a1 r) :=
 iw (st:=eX a0 a1) (fin:=gI a0 a1) (step:=dW a0 a1) (λe=>by rcases e with e | e<;>(intro h;cases h)) (λs x h=>qM d h) KK s3 r h
def eZ(a0:List aA)(a1:List aA):Option (Bool) :=
 cond ((a0.length:Int) != (a1.length:Int)) (some false) ((iE a0 a1 0).bind λ(x6:Unit⊕Unit)=>cond (nV x6) (some false) (some true))
def kI(a0:List aA)(a1:List aA)(r:Bool):AV×WH:=((.bool r),[])
theorem tZ(d:Nat){a0:List aA}{a1:List aA}{r:Bool}(h:eZ a0 a1=some r):Spec (aY bA (d+1)) 94 [(dx a0),(dx a1)] [] (kI a0 a1 r).1 (kI a0 a1 r).2:=by
 unfold eZ at h
 exact bR nB acB h (.br 10 (λ_=>Fn Fo [] none) λ_=>.bd λx6 q6=>.ite (λGY=>Lp [none,none,none,none] [] [.slice none 4 0 0 true,.slice none 4 0 0 true,.undef,.undef] (wC (il GY) (jY (d+0) q6))<|Fn Fo [] none) λGY=>Lp [none,none,none,none] [] [.slice none 4 0 0 true,.slice none 4 0 0 true,.undef,.undef] (wC (Iq GY) (jY (d+0) q6))<|Fn Fo [] none)
abbrev C9(bN:aA):Fast×WH:=([(1,(.ptr (some (0,0)))),(5,(.int .i64 bN.Answer.Why))],[(some (.cells (bD bN) false false))])
def BO(bN:aA):Bool→Ex×Fast×WH:=λe=>(.normal,[(1,(.ptr (some (0,0)))),(6,(.bool e))],[(some (.cells (bD bN) false false))])
def nR(bN:aA):Option (Bool) :=
 cond (bN.Answer.Why==0) (some true) (cond (bN.Answer.Why==4) (some true) (cond (bN.Answer.Why==5) (some true) (some (bN.Answer.Why==6))))
theorem DY(d:Nat){bN:aA}{r:Bool}(h:nR bN=some r):fA (bM (aY bA (d+0)) KK 21 J2) 0 (C9 bN) (BO bN r):=by
 unfold nR at h
 exact dL nB KN h (.br 6 (λ_=>E0 [1,6]) λ_=>.br 6 (λ_=>E0 [1,6]) λ_=>.br 6 (λ_=>E0 [1,6]) λ_=>E0 [1,6])
def oL(bN:aA):Option (Bool) :=
 (nR bN).bind λ(x1:Bool)=>cond x1 (cond (decide ((bN.Answer.Value.length:Int)≤16)) (some (decide (bN.Seq≤4611686018427387903))) (some false)) (some false)
def yh(bN:aA)(r:Bool):AV×WH:=((.bool r),[])
theorem G_(d:Nat){bN:aA}{r:Bool}(h:oL bN=some r):Spec (aY bA (d+1)) 97 [(.agg (bD bN))] [] (yh bN r).1 (yh bN r).2:=by
 unfold oL at h
 exact bR nB acE h (.sk<|.sk<|.sk<|.bd λx1 q1=>Jn [1,5] [none,none] [] [] (DY (d+0) q1)<|.br 6 (λ_=>.br 16 (λ_=>Fn Fo [] none) λ_=>Fn Fo [] none) λ_=>Fn Fo [] none)
def u7(y:aA):Option (Bool) :=
 (oL y).bind λ(x1:Bool)=>some (!x1)
def y9(y:aA)(r:Bool):AV×WH:=((.bool r),[])
theorem IL(d:Nat){y:aA}{r:Bool}(h:u7 y=some r):Spec (aY bA (d+2)) 96 [(.agg (bD y))] [] (y9 y r).1 (y9 y r).2:=by
 unfold u7 at h
 exact bR nB acD h (.bd λx1 q1=>wT (G_ (d+0) q1)<|Fn Fo [] none)
def dZ(a0:List aA)(s3:Int):List AV×WH:=([(dx a0),(.func 96 []),(.int .i64 (a0.length:Int)),(.int .i64 s3)],[])
def fG(a0:List aA):Int⊕Unit→Ex×Fast×WH:=fun
 |.inl e=>(.ret,[(4,(.int .i64 e))],[])
 |.inr e=>((.exit 0),[],[])
abbrev nI(a0:List aA):=g_ [0,1,7,8] (dZ a0) (fG a0)
def cO(a0:List aA)(s3:Int):Option ((Int)⊕(Int⊕Unit)) :=
 cond (decide (s3<(a0.length:Int))) ((dS a0 s3).bind λ(x4:aA)=>(u7 x4).bind λ(x5:Bool)=>cond x5 (some (.inr (.inl s3))) (some (.inl (IntKind.i64.wrap (s3+1))))) (some (.inr (.inr ())))
def gJ(a0:List aA)(s3:Int):Option (Int⊕Unit):=gY (cO a0) KK s3
theorem nX(d:Nat){a0:List aA}{s3:Int}{r:(Int)⊕(Int⊕Unit)}(h:cO a0 s3=some r):fA (bM (aY bA (d+2)) KK 19 Nq) 0 (yt [0,1,7,8] (dZ a0 s3)) (nI a0 r):=by
 unfold cO at h
 exact dL nB QL h (.br 9 (λ_=>.bd λx4 q4=>Ix bQ 14 q4<|.bd λx5 q5=>wT (IL (d+0) q5)<|.br 16 (λ_=>E0 [4]) λ_=>E1 [0,1,7,8] [none,none,none,none] [] [.slice none 4 0 0 true,.undef,.undef,.undef]) λ_=>E0 [])
theorem iV(d:Nat){a0:List aA}{s3:Int}{r:Int⊕Unit}(h:gJ a0 s3=some r):fA (jW (bM (aY bA (d+2)) KK 19 Nq) [0,1,7,8] KK) 0 (yt [0,1,7,8] (dZ a0 s3)) (fG a0 r) :=
 iw (st:=dZ a0) (fin:=fG a0) (step:=cO a0) (λe=>by rcases e with e | e<;>(intro h;cases h)) (λs x h=>nX d h) KK s3 r h
def fF(a0:List aA):Option (Int) :=
 (gJ a0 0).bind λ(x6:Int⊕Unit)=>cond (nV x6) (some (FR x6)) (some (-1))
def jk(a0:List aA)(r:Int):AV×WH:=((.int .i64 r),[])
theorem qp(d:Nat){a0:List aA}{r:Int}(h:fF a0=some r):Spec (aY bA (d+3)) 120 [(dx a0),(.func 96 [])] [] (jk a0 r).1 (jk a0 r).2:=by
 unfold fF at h
 exact bR nB abG h (.bd λx6 q6=>.ite (λGY=>Lp [none,none,none,none] [] [.slice none 4 0 0 true,.undef,.undef,.undef] (wC (il GY) (iV (d+0) q6))<|Fn Fo [] none) λGY=>Lp [none,none,none,none] [] [.slice none 4 0 0 true,.undef,.undef,.undef] (wC (Iq GY) (iV (d+0) q6))<|Fn Fo [] none)
def dP(a0:List aA):Option (Bool) :=
 (fF a0).bind λ(x1:Int)=>some (decide (x1≥0))
def iL(a0:List aA)(r:Bool):AV×WH:=((.bool r),[])
theorem nY(d:Nat){a0:List aA}{r:Bool}(h:dP a0=some r):Spec (aY bA (d+4)) 95 [(dx a0),(.func 96 [])] [] (iL a0 r).1 (iL a0 r).2:=by
 unfold dP at h
 exact bR nB acC h (.bd λx1 q1=>Cb [.slice none 4 0 0 true] (qp (d+0) q1)<|Fn Fo [] none)
abbrev Gc(bN:aT):Fast×WH:=([(1,(.ptr (some (0,0))))],[(some (.cells (dw bN) false false))])
def ES(bN:aT):Unit⊕Unit→Ex×Fast×WH:=fun
 |.inl e=>(.ret,[(2,(.bool false))],[])
 |.inr e=>(.normal,[(1,(.ptr (some (0,0))))],[(some (.cells (dw bN) false false))])
def t_(bN:aT):Option (Unit⊕Unit) :=
 cond (decide (bN.jJ<0)) (some (.inl ())) (cond (decide (bN.jJ≥6)) (some (.inl ())) (cond (decide (bN.Epoch<1)) (some (.inl ())) (cond (decide (bN.Epoch>1099511627776)) (some (.inl ())) (some (.inr ())))))
theorem Au(d:Nat){bN:aT}{r:Unit⊕Unit}(h:t_ bN=some r):fA (bM (aY bA (d+0)) KK 44 RQ) 0 (Gc bN) (ES bN r):=by
 unfold t_ at h
 exact dL nB Qz h (.br 8 (λ_=>E0 [2]) λ_=>.br 13 (λ_=>E0 [2]) λ_=>.br 18 (λ_=>E0 [2]) λ_=>.br 22 (λ_=>E0 [2]) λ_=>E0 [1])
abbrev Gd(x3:aD)(bN:aT):Fast×WH:=([(1,(.ptr (some (0,0)))),(3,(.ptr (some (1,0))))],[(some (.cells (dw bN) false false)),(some (.cells (aU x3) false false))])
def ET(x3:aD)(bN:aT):Bool→Ex×Fast×WH:=λe=>(.normal,[(1,(.ptr (some (0,0)))),(4,(.bool e))],[(some (.cells (dw bN) false false))])
def oM(x3:aD)(bN:aT):Option (Bool) :=
 (jA x3).bind λ(x4:List aB)=>(eY x4 bN.Pairs).bind λ(x5:Bool)=>cond x5 ((gD x3).bind λ(x6:List aA)=>(eZ x6 bN.fM).bind λ(x7:Bool)=>some x7) (some false)
theorem He(d:Nat){x3:aD}{bN:aT}{r:Bool}(h:oM x3 bN=some r):fA (bM (aY bA (d+2)) KK 44 LZ) 0 (Gd x3 bN) (ET x3 bN r):=by
 unfold oM at h
 exact dL nB Ni h (.bd λx4 q4=>Cl [] Fo [] (wH (d+0) q4)<|.er<|.ob (rfl:@Eq (Option AV) (some (bP bN.Pairs)) (some (bP bN.Pairs)))<|.bd λx5 q5=>Cb [.slice none 2 0 0 true,.slice none 2 0 0 true] (tY (d+1) q5)<|.br 30 (λ_=>.bd λx6 q6=>Cl [] Fo [] (tO (d+0) q6)<|.er<|.ob (rfl:@Eq (Option AV) (some (dx bN.fM)) (some (dx bN.fM)))<|.bd λx7 q7=>Cb [.slice none 4 0 0 true,.slice none 4 0 0 true] (tZ (d+1) q7)<|E0 [1,4]) λ_=>E0 [1,4])
def rW(bN:aT):Option (Bool) :=
 (t_ bN).bind λ(x1:Unit⊕Unit)=>cond (nV x1) (some false) ((tN bN).bind λ(x3:aD)=>(oM x3 bN).bind λ(x8:Bool)=>cond x8 ((dP bN.fM).bind λ(x9:Bool)=>some (!x9)) (some false))
def Bz(bN:aT)(r:Bool):AV×WH:=((.bool r),[])
theorem Em(d:Nat){bN:aT}{r:Bool}(h:rW bN=some r):Spec (aY bA (d+9)) 58 [(.agg (dw bN))] [] (Bz bN r).1 (Bz bN r).2:=by
 unfold rW at h
 exact bR nB acj h (.sk<|.bd λx1 q1=>.ite (λhb2=>Jn [1] [none] [] [] (wC (il hb2) (Au (d+8) q1))<|Fn Fo [] none) λhb2=>Jn [1] [none] [] [] (wC (Iq hb2) (Au (d+8) q1))<|.bd λx3 q3=>Cl [] Fo [.agg [.undef,.undef,.slice none 2 0 0 true,.slice none 4 0 0 true]] (ER (d+0) q3)<|.z 3 [.slice none 2 0 0 true,.undef,.undef,.undef,.undef,.undef,.undef,.undef,.undef,.undef,.undef,.undef,.undef,.undef,.undef,.undef,.undef,.undef,.undef]<|.st none<|.bd λx8 q8=>Jn [1,3] [none,none] [] [] (He (d+6) q8)<|.br 38 (λ_=>.bd λx9 q9=>Cb [.slice none 4 0 0 true] (nY (d+4) q9)<|Fn Fo [] none) λ_=>Fn Fo [] none)
abbrev EU(a:aT)(qN:aT):Fast×WH:=([(2,(.ptr (some (0,0)))),(3,(.ptr (some (1,0))))],[(some (.cells (dw a) false false)),(some (.cells (dw qN) false false))])
def D5(a:aT)(qN:aT):Unit⊕Unit→Ex×Fast×WH:=fun
 |.inl e=>(.ret,[(4,(.bool false))],[])
 |.inr e=>(.normal,[(2,(.ptr (some (0,0)))),(3,(.ptr (some (1,0))))],[(some (.cells (dw a) false false)),(some (.cells (dw qN) false false))])
def qU(a:aT)(qN:aT):Option (Unit⊕Unit) :=
 cond (a.jJ != qN.jJ) (some (.inl ())) (cond (a.Epoch != qN.Epoch) (some (.inl ())) (cond ((a.Pairs.length:Int) != (qN.Pairs.length:Int)) (some (.inl ())) (cond ((a.fM.length:Int) != (qN.fM.length:Int)) (some (.inl ())) (some (.inr ())))))
theorem ze(d:Nat){a:aT}{qN:aT}{r:Unit⊕Unit}(h:qU a qN=some r):fA (bM (aY bA (d+0)) KK 73 RS) 0 (EU a qN) (D5 a qN r):=by
 unfold qU at h
 exact dL nB QA h (.br 12 (λ_=>E0 [4]) λ_=>.br 19 (λ_=>E0 [4]) λ_=>.br 28 (λ_=>E0 [4]) λ_=>.br 36 (λ_=>E0 [4]) λ_=>E0 [2,3])
def mR(a:aT)(qN:aT)(s5:Int):List AV×WH:=([(.ptr (some (0,0))),(.ptr (some (1,0))),(.int .i64 s5)],[(some (.cells (dw a) false false)),(some (.cells (dw qN) false false))])
def qw(a:aT)(qN:aT):Unit⊕Unit→Ex×Fast×WH:=fun
 |.inl e=>(.ret,[(4,(.bool false))],[])
 |.inr e=>((.exit 0),[(2,(.ptr (some (0,0)))),(3,(.ptr (some (1,0))))],[(some (.cells (dw a) false false)),(some (.cells (dw qN) false false))])
abbrev EW(a:aT)(qN:aT):=g_ [2,3,5] (mR a qN) (qw a qN)
def lN(a:aT)(qN:aT)(s5:Int):Option ((Int)⊕(Unit⊕Unit)) :=
 cond (decide (s5<(a.Pairs.length:Int))) ((dS a.Pairs s5).bind λ(x6:aB)=>(dS qN.Pairs s5).bind λ(x7:aB)=>cond (!(x6.Key==x7.Key&&(x6.Value==x7.Value&&true))) (some (.inr (.inl ()))) (some (.inl (IntKind.i64.wrap (s5+1))))) (some (.inr (.inr ())))
def vY(a:aT)(qN:aT)(s5:Int):Option (Unit⊕Unit):=gY (lN a qN) KK s5
theorem Gf(d:Nat){a:aT}{qN:aT}{s5:Int}{r:(Int)⊕(Unit⊕Unit)}(h:lN a qN s5=some r):fA (bM (aY bA (d+0)) KK 73 QB) 0 (yt [2,3,5] (mR a qN s5)) (EW a qN r):=by
 unfold lN at h
 exact dL nB SY h (.br 41 (λ_=>.bd λx6 q6=>Ix aR 47 q6<|.bd λx7 q7=>Ix aR 52 q7<|.br 54 (λ_=>E0 [4]) λ_=>E0 [2,3,5]) λ_=>E0 [2,3])
theorem zf(d:Nat){a:aT}{qN:aT}{s5:Int}{r:Unit⊕Unit}(h:vY a qN s5=some r):fA (jW (bM (aY bA (d+0)) KK 73 QB) [2,3,5] KK) 0 (yt [2,3,5] (mR a qN s5)) (qw a qN r) :=
 iw (st:=mR a qN) (fin:=qw a qN) (step:=lN a qN) (λe=>by rcases e with e | e<;>(intro h;cases h)) (λs x h=>Gf d h) KK s5 r h
def mU(a:aT)(qN:aT)(s12:Int):List AV×WH:=([(.ptr (some (0,0))),(.ptr (some (1,0))),(.int .i64 s12)],[(some (.cells (dw a) false false)),(some (.cells (dw qN) false false))])
def qx(a:aT)(qN:aT):Unit⊕Unit→Ex×Fast×WH:=fun
 |.inl e=>(.ret,[(4,(.bool false))],[])
 |.inr e=>((.exit 2),[],[])
abbrev EX(a:aT)(qN:aT):=g_ [2,3,6] (mU a qN) (qx a qN)
def lQ(a:aT)(qN:aT)(s12:Int):Option ((Int)⊕(Unit⊕Unit)) :=
 cond (decide (s12<(a.fM.length:Int))) ((dS a.fM s12).bind λ(Po:aA)=>(dS qN.fM s12).bind λ(GZ:aA)=>cond (!(Po.Client==GZ.Client&&(Po.Seq==GZ.Seq&&(Po.Answer.Why==GZ.Answer.Why&&(Po.Answer.Value==GZ.Answer.Value&&true))))) (some (.inr (.inl ()))) (some (.inl (IntKind.i64.wrap (s12+1))))) (some (.inr (.inr ())))
def vZ(a:aT)(qN:aT)(s12:Int):Option (Unit⊕Unit):=gY (lQ a qN) KK s12
theorem Gg(d:Nat){a:aT}{qN:aT}{s12:Int}{r:(Int)⊕(Unit⊕Unit)}(h:lQ a qN s12=some r):fA (bM (aY bA (d+0)) KK 73 QC) 0 (yt [2,3,6] (mU a qN s12)) (EX a qN r):=by
 unfold lQ at h
 exact dL nB S9 h (.br 59 (λ_=>.bd λPo Zp=>Ix bQ 65 Zp<|.bd λGZ Wz=>Ix bQ 70 Wz<|.br 72 (λ_=>E0 [4]) λ_=>E0 [2,3,6]) λ_=>E0 [])
theorem zh(d:Nat){a:aT}{qN:aT}{s12:Int}{r:Unit⊕Unit}(h:vZ a qN s12=some r):fA (jW (bM (aY bA (d+0)) KK 73 QC) [2,3,6] KK) 0 (yt [2,3,6] (mU a qN s12)) (qx a qN r) :=
 iw (st:=mU a qN) (fin:=qx a qN) (step:=lQ a qN) (λe=>by rcases e with e | e<;>(intro h;cases h)) (λs x h=>Gg d h) KK s12 r h
def pW(a:aT)(qN:aT):Option (Bool) :=
 (qU a qN).bind λ(x1:Unit⊕Unit)=>cond (nV x1) (some false) ((vY a qN 0).bind λ(x8:Unit⊕Unit)=>cond (nV x8) (some false) ((vZ a qN 0).bind λ(x15:Unit⊕Unit)=>cond (nV x15) (some false) (some true)))
def Av(a:aT)(qN:aT)(r:Bool):AV×WH:=((.bool r),[])
theorem C_(d:Nat){a:aT}{qN:aT}{r:Bool}(h:pW a qN=some r):Spec (aY bA (d+1)) 59 [(.agg (dw a)),(.agg (dw qN))] [] (Av a qN r).1 (Av a qN r).2:=by
 unfold pW at h
 exact bR nB acn h (.sk<|.bd λx1 q1=>.ite (λhb2=>Jn [2,3] [none,none] [] [] (wC (il hb2) (ze (d+0) q1))<|Fn Fo [] none) λhb2=>Jn [2,3] [none,none] [] [] (wC (Iq hb2) (ze (d+0) q1))<|.bd λx8 q8=>.ite (λhb9=>Lp [none,none,none] [] [] (wC (il hb9) (zf (d+0) q8))<|Fn Fo [] none) λhb9=>Lp [none,none,none] [] [] (wC (Iq hb9) (zf (d+0) q8))<|.bd λx15 Xa=>.ite (λaaG=>Lp [none,none,none] [] [] (wC (il aaG) (zh (d+0) Xa))<|Fn Fo [] none) λaaG=>Lp [none,none,none] [] [] (wC (Iq aaG) (zh (d+0) Xa))<|Fn Fo [] none)
abbrev Aw(p_r:dH)(bF:aD):Fast×WH:=([(0,(.ptr (some (0,0)))),(3,(.ptr (some (1,0)))),(4,(.ptr (some (2,0))))],[(some (.cells (aU bF) false false)),(some (.cells (ny p_r) false false)),(some (.cells (cu (⟨0,([]:List UInt8)⟩:aH)) false false))])
def zO(p_r:dH)(bF:aD):Unit⊕Unit→Ex×Fast×WH:=fun
 |.inl e=>(.ret,[(4,(.ptr (some (1,0)))),(5,(.bool false))],[(some (.cells (aU bF) false false)),(some (.cells (cu (⟨1,([]:List UInt8)⟩:aH)) false false))])
 |.inr e=>(.normal,[(0,(.ptr (some (0,0)))),(3,(.ptr (some (1,0)))),(4,(.ptr (some (2,0))))],[(some (.cells (aU bF) false false)),(some (.cells (ny p_r) false false)),(some (.cells (cu (⟨0,([]:List UInt8)⟩:aH)) false false))])
def oO(p_r:dH)(bF:aD):Option (Unit⊕Unit) :=
 cond (decide (p_r.Client<0)) (some (.inl ())) (cond (decide (p_r.Client≥4)) (some (.inl ())) (cond (decide (p_r.Seq<1)) (some (.inl ())) (cond (decide (p_r.Seq>4611686018427387903)) (some (.inl ())) ((mF p_r.Op).bind λ(x1:Bool)=>cond (!x1) (some (.inl ())) (some (.inr ()))))))
theorem uf(d:Nat){p_r:dH}{bF:aD}{r:Unit⊕Unit}(h:oO p_r bF=some r):fA (bM (aY bA (d+1)) KK 74 Nj) 1 (Aw p_r bF) (zO p_r bF r):=by
 unfold oO at h
 exact dL nB JW h (.br 11 (λ_=>.st none<|E0 [4,5]) λ_=>.br 16 (λ_=>.st none<|E0 [4,5]) λ_=>.br 21 (λ_=>.st none<|E0 [4,5]) λ_=>.br 26 (λ_=>.st none<|E0 [4,5]) λ_=>.bd λx1 q1=>wT (uY (d+0) q1)<|.br 31 (λ_=>.st none<|E0 [4,5]) λ_=>E0 [0,3,4])
def nS(p_r:dH)(bF:aD):Option (aH×Bool×aD) :=
 (oO p_r bF).bind λ(x2:Unit⊕Unit)=>cond (nV x2) (some ((⟨1,([]:List UInt8)⟩:aH),false,bF)) ((gT p_r.Client bF).bind λ(x4:aA×Bool)=>cond (p_r.Seq==x4.1.Seq) (some (x4.1.Answer,false,bF)) (cond (decide (p_r.Seq<x4.1.Seq)) (some ((⟨9,([]:List UInt8)⟩:aH),false,bF)) ((kr p_r.Op bF).bind λ(x5:aH×aD)=>(fZ (⟨p_r.Client,p_r.Seq,x5.1⟩:aA) x5.2).bind λ(x6:Bool×aD)=>some (x5.1,true,x6.2))))
def uH(p_r:dH)(bF:aD)(r:aH×Bool×aD):AV×WH:=((.tuple [(.agg (cu r.1)),(.bool r.2.1)]),[(some (.cells (aU r.2.2) false false))])
theorem D6(d:Nat){p_r:dH}{bF:aD}{r:aH×Bool×aD}(h:nS p_r bF=some r):Spec (aY bA (d+7)) 62 [(.ptr (some (0,0))),(.agg (ny p_r))] [(some (.cells (aU bF) false false))] (uH p_r bF r).1 (uH p_r bF r).2:=by
 unfold nS at h
 exact bR nB abv h (.sk<|.bd λx2 q2=>.ite (λhb3=>Jn [0,3,4] [none,none,none] [] [] (wC (il hb3) (uf (d+5) q2))<|Fn none [] none) λhb3=>Jn [0,3,4] [none,none,none] [] [] (wC (Iq hb3) (uf (d+5) q2))<|.bd λx4 q4=>Cl [] Fo [] (rV (d+5) q4)<|.st none<|.br 42 (λ_=>.st none<|Fn none [] none) λ_=>.br 50 (λ_=>.st none<|Fn none [] none) λ_=>.bd λx5 q5=>Cl [] Fo [] (yg (d+0) q5)<|.st none<|.bd λx6 q6=>Cl [] Fo [] (qg (d+5) q6)<|.st none<|Fn none [] none)
def eB(x3:Int×Int×List aB×List aA)(asks:List bK)(x1:aT)(x2:aD)(x4:Int×Int×Int×List UInt8×Int×Int×Int×List UInt8×Int×Int×Int×List UInt8×Int×Int×Int×List UInt8×Int×Int×List aB)(s6:Int×List aB):List AV×WH:=([(fE asks),(.ptr (some (0,0))),(.ptr (some (1,0))),(.ptr (some (2,0))),(.ptr (some (3,0))),(.int .i64 (x3.2.2.1.length:Int)),(.int .i64 s6.1)],[(some (.cells (dw x1) false false)),(some (.cells (aU x2) false false)),(some (.cells [(.int .i64 x3.1),(.int .i64 x3.2.1),(.acc 4 0 2 s6.2.length true),(.acc 5 0 4 x3.2.2.2.length true)] false false)),(some (.cells [(.acc 6 0 2 x4.2.2.2.2.2.2.2.2.2.2.2.2.2.2.2.2.2.2.length true),(.int .i64 x4.1),(.int .i64 x4.2.1),(.int .i64 x4.2.2.1),(.str x4.2.2.2.1),(.int .i64 x4.2.2.2.2.1),(.int .i64 x4.2.2.2.2.2.1),(.int .i64 x4.2.2.2.2.2.2.1),(.str x4.2.2.2.2.2.2.2.1),(.int .i64 x4.2.2.2.2.2.2.2.2.1),(.int .i64 x4.2.2.2.2.2.2.2.2.2.1),(.int .i64 x4.2.2.2.2.2.2.2.2.2.2.1),(.str x4.2.2.2.2.2.2.2.2.2.2.2.1),(.int .i64 x4.2.2.2.2.2.2.2.2.2.2.2.2.1),(.int .i64 x4.2.2.2.2.2.2.2.2.2.2.2.2.2.1),(.int .i64 x4.2.2.2.2.2.2.2.2.2.2.2.2.2.2.1),(.str x4.2.2.2.2.2.2.2.2.2.2.2.2.2.2.2.1),(.int .i64 x4.2.2.2.2.2.2.2.2.2.2.2.2.2.2.2.2.1),(.int .i64 x4.2.2.2.2.2.2.2.2.2.2.2.2.2.2.2.2.2.1)] false false)),(some (.cells (aO s6.2) false true)),(some (.cells (bB x3.2.2.2) false true)),(some (.cells (aO x4.2.2.2.2.2.2.2.2.2.2.2.2.2.2.2.2.2.2) false true))])
def fB(x3:Int×Int×List aB×List aA)(asks:List bK)(x1:aT)(x2:aD)(x4:Int×Int×Int×List UInt8×Int×Int×Int×List UInt8×Int×Int×Int×List UInt8×Int×Int×Int×List UInt8×Int×Int×List aB):(List aB)→Ex×Fast×WH:=λe=>((.exit 0),[(3,(fE asks)),(9,(.ptr (some (0,0)))),(10,(.ptr (some (1,0)))),(11,(.ptr (some (2,0)))),(12,(.ptr (some (3,0))))],[(some (.cells (dw x1) false false)),(some (.cells (aU x2) false false)),(some (.cells [(.int .i64 x3.1),(.int .i64 x3.2.1),(.acc 4 0 2 e.length true),(.acc 5 0 4 x3.2.2.2.length true)] false false)),(some (.cells [(.acc 6 0 2 x4.2.2.2.2.2.2.2.2.2.2.2.2.2.2.2.2.2.2.length true),(.int .i64 x4.1),(.int .i64 x4.2.1),(.int .i64 x4.2.2.1),(.str x4.2.2.2.1),(.int .i64 x4.2.2.2.2.1),(.int .i64 x4.2.2.2.2.2.1),(.int .i64 x4.2.2.2.2.2.2.1),(.str x4.2.2.2.2.2.2.2.1),(.int .i64 x4.2.2.2.2.2.2.2.2.1),(.int .i64 x4.2.2.2.2.2.2.2.2.2.1),(.int .i64 x4.2.2.2.2.2.2.2.2.2.2.1),(.str x4.2.2.2.2.2.2.2.2.2.2.2.1),(.int .i64 x4.2.2.2.2.2.2.2.2.2.2.2.2.1),(.int .i64 x4.2.2.2.2.2.2.2.2.2.2.2.2.2.1),(.int .i64 x4.2.2.2.2.2.2.2.2.2.2.2.2.2.2.1),(.str x4.2.2.2.2.2.2.2.2.2.2.2.2.2.2.2.1),(.int .i64 x4.2.2.2.2.2.2.2.2.2.2.2.2.2.2.2.2.1),(.int .i64 x4.2.2.2.2.2.2.2.2.2.2.2.2.2.2.2.2.2.1)] false false)),(some (.cells (aO e) false true)),(some (.cells (bB x3.2.2.2) false true)),(some (.cells (aO x4.2.2.2.2.2.2.2.2.2.2.2.2.2.2.2.2.2.2) false true))])
abbrev eD(x3:Int×Int×List aB×List aA)(asks:List bK)(x1:aT)(x2:aD)(x4:Int×Int×Int×List UInt8×Int×Int×Int×List UInt8×Int×Int×Int×List UInt8×Int×Int×Int×List UInt8×Int×Int×List aB):=g_ [3,9,10,11,12,33,34] (eB x3 asks x1 x2 x4) (fB x3 asks x1 x2 x4)
def iA(x3:Int×Int×List aB×List aA)(asks:List bK)(x1:aT)(x2:aD)(x4:Int×Int×Int×List UInt8×Int×Int×Int×List UInt8×Int×Int×Int×List UInt8×Int×Int×Int×List UInt8×Int×Int×List aB)(s6:Int×List aB):Option ((Int×List aB)⊕((List aB))) :=
 cond (decide (s6.1<(x3.2.2.1.length:Int))) ((dS s6.2 s6.1).bind λ(x7:aB)=>some (.inl ((IntKind.i64.wrap (s6.1+1)),(s6.2.set s6.1.toNat (⟨x7.Key,[111,116,104,101,114]⟩:aB))))) (some (.inr s6.2))
def kX(x3:Int×Int×List aB×List aA)(asks:List bK)(x1:aT)(x2:aD)(x4:Int×Int×Int×List UInt8×Int×Int×Int×List UInt8×Int×Int×Int×List UInt8×Int×Int×Int×List UInt8×Int×Int×List aB)(s6:Int×List aB):Option ((List aB)):=gY (iA x3 asks x1 x2 x4) KK s6
theorem wY(d:Nat){x3:Int×Int×List aB×List aA}{asks:List bK}{x1:aT}{x2:aD}{x4:Int×Int×Int×List UInt8×Int×Int×Int×List UInt8×Int×Int×Int×List UInt8×Int×Int×Int×List UInt8×Int×Int×List aB}{s6:Int×List aB}{r:(Int×List aB)⊕((List aB))}(h:iA x3 asks x1 x2 x4 s6=some r):fA (bM (aY bA (d+0)) KK 110 Qs) 0 (yt [3,9,10,11,12,33,34] (eB x3 asks x1 x2 x4 s6)) (eD x3 asks x1 x2 x4 r):=by
 unfold iA at h
 exact dL nB SK h (.br 35 (λ_=>.bd λx7 q7=>Ia aR 40 4 q7<|.st (some (aO (s6.2.set s6.1.toNat (⟨x7.Key,[111,116,104,101,114]⟩:aB))))<|.ob (zu (o:=1) aR q7 rfl:H6 (aO s6.2) (0+s6.1.toNat*2+1) [(.str ([111,116,104,101,114]))]=some (aO (s6.2.set s6.1.toNat (⟨x7.Key,[111,116,104,101,114]⟩:aB))))<|.Bo (.en [3,9,10,11,12,33,34] [none,none,none,none,none,none,none] [] [.slice none 8 0 0 true,.undef,.undef,.undef,.undef,.undef,.undef]) _ (λr=>(.normal=(eD x3 asks x1 x2 x4 r).1∧[(3,(fE asks)),(9,(.ptr (some (0,0)))),(10,(.ptr (some (1,0)))),(11,(.ptr (some (2,0)))),(12,(.ptr (some (3,0)))),(33,(.int .i64 (x3.2.2.1.length:Int))),(34,(.int .i64 (IntKind.i64.wrap (s6.1+1))))]=(eD x3 asks x1 x2 x4 r).2.1∧[(some (.cells (dw x1) false false)),(some (.cells (aU x2) false false)),(some (.cells [(.int .i64 x3.1),(.int .i64 x3.2.1),(.acc 4 0 2 s6.2.length true),(.acc 5 0 4 x3.2.2.2.length true)] false false)),(some (.cells [(.acc 6 0 2 x4.2.2.2.2.2.2.2.2.2.2.2.2.2.2.2.2.2.2.length true),(.int .i64 x4.1),(.int .i64 x4.2.1),(.int .i64 x4.2.2.1),(.str x4.2.2.2.1),(.int .i64 x4.2.2.2.2.1),(.int .i64 x4.2.2.2.2.2.1),(.int .i64 x4.2.2.2.2.2.2.1),(.str x4.2.2.2.2.2.2.2.1),(.int .i64 x4.2.2.2.2.2.2.2.2.1),(.int .i64 x4.2.2.2.2.2.2.2.2.2.1),(.int .i64 x4.2.2.2.2.2.2.2.2.2.2.1),(.str x4.2.2.2.2.2.2.2.2.2.2.2.1),(.int .i64 x4.2.2.2.2.2.2.2.2.2.2.2.2.1),(.int .i64 x4.2.2.2.2.2.2.2.2.2.2.2.2.2.1),(.int .i64 x4.2.2.2.2.2.2.2.2.2.2.2.2.2.2.1),(.str x4.2.2.2.2.2.2.2.2.2.2.2.2.2.2.2.1),(.int .i64 x4.2.2.2.2.2.2.2.2.2.2.2.2.2.2.2.2.1),(.int .i64 x4.2.2.2.2.2.2.2.2.2.2.2.2.2.2.2.2.2.1)] false false)),(some (.cells (aO (s6.2.set s6.1.toNat (⟨x7.Key,[111,116,104,101,114]⟩:aB))) false true)),(some (.cells (bB x3.2.2.2) false true)),(some (.cells (aO x4.2.2.2.2.2.2.2.2.2.2.2.2.2.2.2.2.2.2) false true))]=(eD x3 asks x1 x2 x4 r).2.2)) (by show _∧_∧_;(try rw[show AV.list 2 s6.2.length (aO (s6.2.set s6.1.toNat (⟨x7.Key,[111,116,104,101,114]⟩:aB))) false=bP (s6.2.set s6.1.toNat (⟨x7.Key,[111,116,104,101,114]⟩:aB))from by simp only[bP,bO]]);refine⟨rfl, ?_, ?_⟩<;>first | rfl |(simp only[eD,g_,iX,fB,eB,bO,aJ,List.length_replicate,bZ,fJ,Nat.add_zero,Nat.zero_add];done) | simp[eD,g_,iX,fB,eB,fE])) λ_=>E1 [3,9,10,11,12] [none,none,none,none,none] [] [.slice none 8 0 0 true,.undef,.undef,.undef,.undef])
theorem wZ(d:Nat){x3:Int×Int×List aB×List aA}{asks:List bK}{x1:aT}{x2:aD}{x4:Int×Int×Int×List UInt8×Int×Int×Int×List UInt8×Int×Int×Int×List UInt8×Int×Int×Int×List UInt8×Int×Int×List aB}{s6:Int×List aB}{r:(List aB)}(h:kX x3 asks x1 x2 x4 s6=some r):fA (jW (bM (aY bA (d+0)) KK 110 Qs) [3,9,10,11,12,33,34] KK) 0 (yt [3,9,10,11,12,33,34] (eB x3 asks x1 x2 x4 s6)) (fB x3 asks x1 x2 x4 r) :=
 iw (st:=eB x3 asks x1 x2 x4) (fin:=fB x3 asks x1 x2 x4) (step:=iA x3 asks x1 x2 x4) (λe=>by(intro h;cases h)) (λs x h=>wY d h) KK s6 r h
def eF(x3:Int×Int×List aB×List aA)(asks:List bK)(x1:aT)(x2:aD)(x8:(List aB))(x4:Int×Int×Int×List UInt8×Int×Int×Int×List UInt8×Int×Int×Int×List UInt8×Int×Int×Int×List UInt8×Int×Int×List aB)(s10:Int×List aA):List AV×WH:=([(fE asks),(.ptr (some (0,0))),(.ptr (some (1,0))),(.ptr (some (2,0))),(.ptr (some (3,0))),(.int .i64 (x3.2.2.2.length:Int)),(.int .i64 s10.1)],[(some (.cells (dw x1) false false)),(some (.cells (aU x2) false false)),(some (.cells [(.int .i64 x3.1),(.int .i64 x3.2.1),(.acc 4 0 2 x8.length true),(.acc 5 0 4 s10.2.length true)] false false)),(some (.cells [(.acc 6 0 2 x4.2.2.2.2.2.2.2.2.2.2.2.2.2.2.2.2.2.2.length true),(.int .i64 x4.1),(.int .i64 x4.2.1),(.int .i64 x4.2.2.1),(.str x4.2.2.2.1),(.int .i64 x4.2.2.2.2.1),(.int .i64 x4.2.2.2.2.2.1),(.int .i64 x4.2.2.2.2.2.2.1),(.str x4.2.2.2.2.2.2.2.1),(.int .i64 x4.2.2.2.2.2.2.2.2.1),(.int .i64 x4.2.2.2.2.2.2.2.2.2.1),(.int .i64 x4.2.2.2.2.2.2.2.2.2.2.1),(.str x4.2.2.2.2.2.2.2.2.2.2.2.1),(.int .i64 x4.2.2.2.2.2.2.2.2.2.2.2.2.1),(.int .i64 x4.2.2.2.2.2.2.2.2.2.2.2.2.2.1),(.int .i64 x4.2.2.2.2.2.2.2.2.2.2.2.2.2.2.1),(.str x4.2.2.2.2.2.2.2.2.2.2.2.2.2.2.2.1),(.int .i64 x4.2.2.2.2.2.2.2.2.2.2.2.2.2.2.2.2.1),(.int .i64 x4.2.2.2.2.2.2.2.2.2.2.2.2.2.2.2.2.2.1)] false false)),(some (.cells (aO x8) false true)),(some (.cells (bB s10.2) false true)),(some (.cells (aO x4.2.2.2.2.2.2.2.2.2.2.2.2.2.2.2.2.2.2) false true))])
def fC(x3:Int×Int×List aB×List aA)(asks:List bK)(x1:aT)(x2:aD)(x8:(List aB))(x4:Int×Int×Int×List UInt8×Int×Int×Int×List UInt8×Int×Int×Int×List UInt8×Int×Int×Int×List UInt8×Int×Int×List aB):Unit→Ex×Fast×WH:=λe=>((.exit 2),[(3,(fE asks)),(9,(.ptr (some (0,0)))),(10,(.ptr (some (1,0)))),(12,(.ptr (some (2,0))))],[(some (.cells (dw x1) false false)),(some (.cells (aU x2) false false)),(some (.cells [(.acc 3 0 2 x4.2.2.2.2.2.2.2.2.2.2.2.2.2.2.2.2.2.2.length true),(.int .i64 x4.1),(.int .i64 x4.2.1),(.int .i64 x4.2.2.1),(.str x4.2.2.2.1),(.int .i64 x4.2.2.2.2.1),(.int .i64 x4.2.2.2.2.2.1),(.int .i64 x4.2.2.2.2.2.2.1),(.str x4.2.2.2.2.2.2.2.1),(.int .i64 x4.2.2.2.2.2.2.2.2.1),(.int .i64 x4.2.2.2.2.2.2.2.2.2.1),(.int .i64 x4.2.2.2.2.2.2.2.2.2.2.1),(.str x4.2.2.2.2.2.2.2.2.2.2.2.1),(.int .i64 x4.2.2.2.2.2.2.2.2.2.2.2.2.1),(.int .i64 x4.2.2.2.2.2.2.2.2.2.2.2.2.2.1),(.int .i64 x4.2.2.2.2.2.2.2.2.2.2.2.2.2.2.1),(.str x4.2.2.2.2.2.2.2.2.2.2.2.2.2.2.2.1),(.int .i64 x4.2.2.2.2.2.2.2.2.2.2.2.2.2.2.2.2.1),(.int .i64 x4.2.2.2.2.2.2.2.2.2.2.2.2.2.2.2.2.2.1)] false false)),(some (.cells (aO x4.2.2.2.2.2.2.2.2.2.2.2.2.2.2.2.2.2.2) false true))])
abbrev eG(x3:Int×Int×List aB×List aA)(asks:List bK)(x1:aT)(x2:aD)(x8:(List aB))(x4:Int×Int×Int×List UInt8×Int×Int×Int×List UInt8×Int×Int×Int×List UInt8×Int×Int×Int×List UInt8×Int×Int×List aB):=g_ [3,9,10,11,12,45,46] (eF x3 asks x1 x2 x8 x4) (fC x3 asks x1 x2 x8 x4)
def iB(x3:Int×Int×List aB×List aA)(asks:List bK)(x1:aT)(x2:aD)(x8:(List aB))(x4:Int×Int×Int×List UInt8×Int×Int×Int×List UInt8×Int×Int×Int×List UInt8×Int×Int×Int×List UInt8×Int×Int×List aB)(s10:Int×List aA):Option ((Int×List aA)⊕(Unit)) :=
 cond (decide (s10.1<(x3.2.2.2.length:Int))) ((dS s10.2 s10.1).bind λ(Nr:aA)=>some (.inl ((IntKind.i64.wrap (s10.1+1)),(s10.2.set s10.1.toNat (⟨Nr.Client,99,Nr.Answer⟩:aA))))) (some (.inr ()))
def kY(x3:Int×Int×List aB×List aA)(asks:List bK)(x1:aT)(x2:aD)(x8:(List aB))(x4:Int×Int×Int×List UInt8×Int×Int×Int×List UInt8×Int×Int×Int×List UInt8×Int×Int×Int×List UInt8×Int×Int×List aB)(s10:Int×List aA):Option (Unit):=gY (iB x3 asks x1 x2 x8 x4) KK s10
theorem w9(d:Nat){x3:Int×Int×List aB×List aA}{asks:List bK}{x1:aT}{x2:aD}{x8:(List aB)}{x4:Int×Int×Int×List UInt8×Int×Int×Int×List UInt8×Int×Int×Int×List UInt8×Int×Int×Int×List UInt8×Int×Int×List aB}{s10:Int×List aA}{r:(Int×List aA)⊕(Unit)}(h:iB x3 asks x1 x2 x8 x4 s10=some r):fA (bM (aY bA (d+0)) KK 110 Qt) 0 (yt [3,9,10,11,12,45,46] (eF x3 asks x1 x2 x8 x4 s10)) (eG x3 asks x1 x2 x8 x4 r):=by
 unfold iB at h
 exact dL nB SL h (.br 47 (λ_=>.bd λNr Wy=>Ia bQ 52 5 Wy<|.st (some (bB (s10.2.set s10.1.toNat (⟨Nr.Client,99,Nr.Answer⟩:aA))))<|.ob (zu (o:=1) bQ Wy rfl:H6 (bB s10.2) (0+s10.1.toNat*4+1) [(.int .i64 99)]=some (bB (s10.2.set s10.1.toNat (⟨Nr.Client,99,Nr.Answer⟩:aA))))<|.Bo (.en [3,9,10,11,12,45,46] [none,none,none,none,none,none,none] [] [.slice none 8 0 0 true,.undef,.undef,.undef,.undef,.undef,.undef]) _ (λr=>(.normal=(eG x3 asks x1 x2 x8 x4 r).1∧[(3,(fE asks)),(9,(.ptr (some (0,0)))),(10,(.ptr (some (1,0)))),(11,(.ptr (some (2,0)))),(12,(.ptr (some (3,0)))),(45,(.int .i64 (x3.2.2.2.length:Int))),(46,(.int .i64 (IntKind.i64.wrap (s10.1+1))))]=(eG x3 asks x1 x2 x8 x4 r).2.1∧[(some (.cells (dw x1) false false)),(some (.cells (aU x2) false false)),(some (.cells [(.int .i64 x3.1),(.int .i64 x3.2.1),(.acc 4 0 2 x8.length true),(.acc 5 0 4 s10.2.length true)] false false)),(some (.cells [(.acc 6 0 2 x4.2.2.2.2.2.2.2.2.2.2.2.2.2.2.2.2.2.2.length true),(.int .i64 x4.1),(.int .i64 x4.2.1),(.int .i64 x4.2.2.1),(.str x4.2.2.2.1),(.int .i64 x4.2.2.2.2.1),(.int .i64 x4.2.2.2.2.2.1),(.int .i64 x4.2.2.2.2.2.2.1),(.str x4.2.2.2.2.2.2.2.1),(.int .i64 x4.2.2.2.2.2.2.2.2.1),(.int .i64 x4.2.2.2.2.2.2.2.2.2.1),(.int .i64 x4.2.2.2.2.2.2.2.2.2.2.1),(.str x4.2.2.2.2.2.2.2.2.2.2.2.1),(.int .i64 x4.2.2.2.2.2.2.2.2.2.2.2.2.1),(.int .i64 x4.2.2.2.2.2.2.2.2.2.2.2.2.2.1),(.int .i64 x4.2.2.2.2.2.2.2.2.2.2.2.2.2.2.1),(.str x4.2.2.2.2.2.2.2.2.2.2.2.2.2.2.2.1),(.int .i64 x4.2.2.2.2.2.2.2.2.2.2.2.2.2.2.2.2.1),(.int .i64 x4.2.2.2.2.2.2.2.2.2.2.2.2.2.2.2.2.2.1)] false false)),(some (.cells (aO x8) false true)),(some (.cells (bB (s10.2.set s10.1.toNat (⟨Nr.Client,99,Nr.Answer⟩:aA))) false true)),(some (.cells (aO x4.2.2.2.2.2.2.2.2.2.2.2.2.2.2.2.2.2.2) false true))]=(eG x3 asks x1 x2 x8 x4 r).2.2)) (by show _∧_∧_;(try rw[show AV.list 4 s10.2.length (bB (s10.2.set s10.1.toNat (⟨Nr.Client,99,Nr.Answer⟩:aA))) false=dx (s10.2.set s10.1.toNat (⟨Nr.Client,99,Nr.Answer⟩:aA))from by simp only[dx,bO]]);refine⟨rfl, ?_, ?_⟩<;>first | rfl |(simp only[eG,g_,iX,fC,eF,bO,aJ,List.length_replicate,bZ,fJ,Nat.add_zero,Nat.zero_add];done) | simp[eG,g_,iX,fC,eF,fE])) λ_=>E1 [3,9,10,12] [none,none,none,none] [] [.slice none 8 0 0 true,.undef,.undef,.undef])
theorem w_(d:Nat){x3:Int×Int×List aB×List aA}{asks:List bK}{x1:aT}{x2:aD}{x8:(List aB)}{x4:Int×Int×Int×List UInt8×Int×Int×Int×List UInt8×Int×Int×Int×List UInt8×Int×Int×Int×List UInt8×Int×Int×List aB}{s10:Int×List aA}{r:Unit}(h:kY x3 asks x1 x2 x8 x4 s10=some r):fA (jW (bM (aY bA (d+0)) KK 110 Qt) [3,9,10,11,12,45,46] KK) 0 (yt [3,9,10,11,12,45,46] (eF x3 asks x1 x2 x8 x4 s10)) (fC x3 asks x1 x2 x8 x4 r) :=
 iw (st:=eF x3 asks x1 x2 x8 x4) (fin:=fC x3 asks x1 x2 x8 x4) (step:=iB x3 asks x1 x2 x8 x4) (λe=>by(intro h;cases h)) (λs x h=>w9 d h) KK s10 r h
abbrev wh(x1:aT)(x2:aD)(asks:List bK)(x4:Int×Int×Int×List UInt8×Int×Int×Int×List UInt8×Int×Int×Int×List UInt8×Int×Int×Int×List UInt8×Int×Int×List aB):Fast×WH:=([(3,(fE asks)),(9,(.ptr (some (0,0)))),(10,(.ptr (some (1,0)))),(12,(.ptr (some (2,0))))],[(some (.cells (dw x1) false false)),(some (.cells (aU x2) false false)),(some (.cells [(.acc 3 0 2 x4.2.2.2.2.2.2.2.2.2.2.2.2.2.2.2.2.2.2.length true),(.int .i64 x4.1),(.int .i64 x4.2.1),(.int .i64 x4.2.2.1),(.str x4.2.2.2.1),(.int .i64 x4.2.2.2.2.1),(.int .i64 x4.2.2.2.2.2.1),(.int .i64 x4.2.2.2.2.2.2.1),(.str x4.2.2.2.2.2.2.2.1),(.int .i64 x4.2.2.2.2.2.2.2.2.1),(.int .i64 x4.2.2.2.2.2.2.2.2.2.1),(.int .i64 x4.2.2.2.2.2.2.2.2.2.2.1),(.str x4.2.2.2.2.2.2.2.2.2.2.2.1),(.int .i64 x4.2.2.2.2.2.2.2.2.2.2.2.2.1),(.int .i64 x4.2.2.2.2.2.2.2.2.2.2.2.2.2.1),(.int .i64 x4.2.2.2.2.2.2.2.2.2.2.2.2.2.2.1),(.str x4.2.2.2.2.2.2.2.2.2.2.2.2.2.2.2.1),(.int .i64 x4.2.2.2.2.2.2.2.2.2.2.2.2.2.2.2.2.1),(.int .i64 x4.2.2.2.2.2.2.2.2.2.2.2.2.2.2.2.2.2.1)] false false)),(some (.cells (aO x4.2.2.2.2.2.2.2.2.2.2.2.2.2.2.2.2.2.2) false true))])
def vN(x1:aT)(x2:aD)(asks:List bK)(x4:Int×Int×Int×List UInt8×Int×Int×Int×List UInt8×Int×Int×Int×List UInt8×Int×Int×Int×List UInt8×Int×Int×List aB):Unit⊕Unit→Ex×Fast×WH:=fun
 |.inl e=>(.ret,[(8,(.bool false))],[])
 |.inr e=>(.normal,[(3,(fE asks)),(10,(.ptr (some (0,0)))),(12,(.ptr (some (1,0))))],[(some (.cells (aU x2) false false)),(some (.cells [(.acc 2 0 2 x4.2.2.2.2.2.2.2.2.2.2.2.2.2.2.2.2.2.2.length true),(.int .i64 x4.1),(.int .i64 x4.2.1),(.int .i64 x4.2.2.1),(.str x4.2.2.2.1),(.int .i64 x4.2.2.2.2.1),(.int .i64 x4.2.2.2.2.2.1),(.int .i64 x4.2.2.2.2.2.2.1),(.str x4.2.2.2.2.2.2.2.1),(.int .i64 x4.2.2.2.2.2.2.2.2.1),(.int .i64 x4.2.2.2.2.2.2.2.2.2.1),(.int .i64 x4.2.2.2.2.2.2.2.2.2.2.1),(.str x4.2.2.2.2.2.2.2.2.2.2.2.1),(.int .i64 x4.2.2.2.2.2.2.2.2.2.2.2.2.1),(.int .i64 x4.2.2.2.2.2.2.2.2.2.2.2.2.2.1),(.int .i64 x4.2.2.2.2.2.2.2.2.2.2.2.2.2.2.1),(.str x4.2.2.2.2.2.2.2.2.2.2.2.2.2.2.2.1),(.int .i64 x4.2.2.2.2.2.2.2.2.2.2.2.2.2.2.2.2.1),(.int .i64 x4.2.2.2.2.2.2.2.2.2.2.2.2.2.2.2.2.2.1)] false false)),(some (.cells (aO x4.2.2.2.2.2.2.2.2.2.2.2.2.2.2.2.2.2.2) false true))])
def gK(x1:aT)(x2:aD)(asks:List bK)(x4:Int×Int×Int×List UInt8×Int×Int×Int×List UInt8×Int×Int×Int×List UInt8×Int×Int×Int×List UInt8×Int×Int×List aB):Option (Unit⊕Unit) :=
 (nQ).bind λ(Po:Bool)=>cond (!Po) (some (.inl ())) ((rW x1).bind λ(GZ:Bool)=>cond (!GZ) (some (.inl ())) ((gL x2).bind λ(x15:aT)=>(pW x15 x1).bind λ(TG:Bool)=>cond (!TG) (some (.inl ())) ((kG x2).bind λ(TH:Int)=>cond (TH != (IntKind.i64.wrap (1+(x1.Pairs.length:Int)))) (some (.inl ())) (some (.inr ())))))
theorem nT(d:Nat){x1:aT}{x2:aD}{asks:List bK}{x4:Int×Int×Int×List UInt8×Int×Int×Int×List UInt8×Int×Int×Int×List UInt8×Int×Int×Int×List UInt8×Int×Int×List aB}{r:Unit⊕Unit}(h:gK x1 x2 asks x4=some r):fA (bM (aY bA (d+9)) KK 110 Eh) 0 (wh x1 x2 asks x4) (vN x1 x2 asks x4 r):=by
 unfold gK at h
 exact dL nB GU h (.bd λPo Zp=>wT (DX (d+0) Zp)<|.br 57 (λ_=>E0 [8]) λ_=>.bd λGZ Wz=>Cb [.agg [.undef,.undef,.slice none 2 0 0 true,.slice none 4 0 0 true]] (Em (d+0) Wz)<|.br 62 (λ_=>E0 [8]) λ_=>.bd λx15 Xa=>Cl [] Fo [] (lY (d+6) Xa)<|.bd λTG q16=>Cb [.agg [.undef,.undef,.slice none 2 0 0 true,.slice none 4 0 0 true],.agg [.undef,.undef,.slice none 2 0 0 true,.slice none 4 0 0 true]] (C_ (d+8) q16)<|.br 68 (λ_=>E0 [8]) λ_=>.bd λTH q17=>Cl [] Fo [] (vM (d+7) q17)<|.er<|.ob (rfl:@Eq (Option AV) (some (bP x1.Pairs)) (some (bP x1.Pairs)))<|.br 75 (λ_=>E0 [8]) λ_=>E1 [3,10,12] [none,none,none] [] [.slice none 8 0 0 true,.undef,.undef])
def gX(asks:List bK)(Mh:Int×aD×aD):List AV×WH:=([(.ptr (some (0,0))),(.ptr (some (1,0))),(fE asks),(.int .i64 (asks.length:Int)),(.int .i64 Mh.1)],[(some (.cells (aU Mh.2.1) false false)),(some (.cells (aU Mh.2.2) false false))])
def jl(asks:List bK):Unit⊕(aD×aD)→Ex×Fast×WH:=fun
 |.inl e=>(.ret,[(8,(.bool false))],[])
 |.inr e=>((.exit 4),[(10,(.ptr (some (0,0)))),(12,(.ptr (some (1,0))))],[(some (.cells (aU e.1) false false)),(some (.cells (aU e.2) false false))])
abbrev wm(asks:List bK):=g_ [10,12,76,77,78] (gX asks) (jl asks)
def fP(asks:List bK)(Mh:Int×aD×aD):Option ((Int×aD×aD)⊕(Unit⊕(aD×aD))) :=
 cond (decide (Mh.1<(asks.length:Int))) ((dS asks Mh.1).bind λ(x29:bK)=>(CG x29).bind λ(x30:dH)=>(iK x30 Mh.2.1).bind λ(x31:aH×Bool×aD)=>(nS x30 Mh.2.2).bind λ(x32:aH×Bool×aD)=>cond (!(x31.1.Why==x32.1.Why&&(x31.1.Value==x32.1.Value&&true))) (some (.inr (.inl ()))) (cond (!(x31.2.1==x32.2.1)) (some (.inr (.inl ()))) (some (.inl ((IntKind.i64.wrap (Mh.1+1)),x31.2.2,x32.2.2))))) (some (.inr (.inr (Mh.2.1,Mh.2.2))))
def kZ(asks:List bK)(Mh:Int×aD×aD):Option (Unit⊕(aD×aD)):=gY (fP asks) KK Mh
theorem xg(d:Nat){asks:List bK}{Mh:Int×aD×aD}{r:(Int×aD×aD)⊕(Unit⊕(aD×aD))}(h:fP asks Mh=some r):fA (bM (aY bA (d+7)) KK 110 Qu) 0 (yt [10,12,76,77,78] (gX asks Mh)) (wm asks r):=by
 unfold fP at h
 exact dL nB SN h (.br 79 (λ_=>.bd λx29 q29=>Ix A_ 80 q29<|.st none<|.bd λx30 q30=>wT (Pn (d+3) q30)<|.st none<|.bd λx31 q31=>Cl [] Fo [] (tV (d+0) q31)<|.st none<|.bd λx32 q32=>Cl [] Fo [] (D6 (d+0) q32)<|.st none<|.br 97 (λ_=>E0 [8]) λ_=>.br 101 (λ_=>E0 [8]) λ_=>E1 [10,12,76,77,78] [none,none,none,none,none] [] [.undef,.undef,.slice none 8 0 0 true,.undef,.undef]) λ_=>E0 [10,12])
theorem nU(d:Nat){asks:List bK}{Mh:Int×aD×aD}{r:Unit⊕(aD×aD)}(h:kZ asks Mh=some r):fA (jW (bM (aY bA (d+7)) KK 110 Qu) [10,12,76,77,78] KK) 0 (yt [10,12,76,77,78] (gX asks Mh)) (jl asks r) :=
 iw (st:=gX asks) (fin:=jl asks) (step:=fP asks) (λe=>by rcases e with e | e<;>(intro h;cases h)) (λs x h=>xg d h) KK Mh r h
def jU(k:Int)(epoch:Int)(first:List bK)(asks:List bK):Option (Bool) :=
 (CU k epoch first 0).bind λ(x1:aT)=>(tN x1).bind λ(x2:aD)=>(jM x2).bind λ(x3:Int×Int×List aB×List aA)=>(yc (⟨x3.1,x3.2.1,x3.2.2.1,x3.2.2.2⟩:aT)).bind λ(x4:Int×Int×Int×List UInt8×Int×Int×Int×List UInt8×Int×Int×Int×List UInt8×Int×Int×Int×List UInt8×Int×Int×List aB)=>(kX x3 asks x1 x2 x4 (0,x3.2.2.1)).bind λ(x8:(List aB))=>(kY x3 asks x1 x2 x8 x4 (0,x3.2.2.2)).bind λ(Iy:Unit)=>(gK x1 x2 asks x4).bind λ(x18:Unit⊕Unit)=>cond (nV x18) (some false) ((kZ asks (0,x2,(⟨(⟨x4.2.2.2.2.2.2.2.2.2.2.2.2.2.2.2.2.2.2⟩:gq),(⟨(⟨(⟨x4.1,x4.2.1,(⟨x4.2.2.1,x4.2.2.2.1⟩:aH)⟩:aA),(⟨x4.2.2.2.2.1,x4.2.2.2.2.2.1,(⟨x4.2.2.2.2.2.2.1,x4.2.2.2.2.2.2.2.1⟩:aH)⟩:aA),(⟨x4.2.2.2.2.2.2.2.2.1,x4.2.2.2.2.2.2.2.2.2.1,(⟨x4.2.2.2.2.2.2.2.2.2.2.1,x4.2.2.2.2.2.2.2.2.2.2.2.1⟩:aH)⟩:aA),(⟨x4.2.2.2.2.2.2.2.2.2.2.2.2.1,x4.2.2.2.2.2.2.2.2.2.2.2.2.2.1,(⟨x4.2.2.2.2.2.2.2.2.2.2.2.2.2.2.1,x4.2.2.2.2.2.2.2.2.2.2.2.2.2.2.2.1⟩:aH)⟩:aA)⟩:A4 aA)⟩:aQ),x4.2.2.2.2.2.2.2.2.2.2.2.2.2.2.2.2.1,x4.2.2.2.2.2.2.2.2.2.2.2.2.2.2.2.2.2.1⟩:aD))).bind λ(x33:Unit⊕(aD×aD))=>cond (nV x33) (some false) ((gL (Qg x33).1).bind λ(x35:aT)=>(gL (Qg x33).2).bind λ(x36:aT)=>(pW x35 x36).bind λ(x37:Bool)=>cond x37 ((gL (Qg x33).1).bind λ(x38:aT)=>(rW x38).bind λ(x39:Bool)=>some x39) (some false)))
def oQ(k:Int)(epoch:Int)(first:List bK)(asks:List bK)(r:Bool):AV×WH:=((.bool r),[])
theorem zP(d:Nat){k:Int}{epoch:Int}{first:List bK}{asks:List bK}{r:Bool}(h:jU k epoch first asks=some r):Spec (aY bA (d+10)) 11 [(.int .i64 k),(.int .i64 epoch),(fE first),(fE asks)] [] (oQ k epoch first asks r).1 (oQ k epoch first asks r).2:=by
 unfold jU at h
 exact bR nB ab7 h (.bd λx1 q1=>Cl [] Fo [.undef,.undef,.slice none 8 0 0 true] (QS (d+4) q1)<|.z 9 [.undef,.undef,.slice none 2 0 0 true,.slice none 4 0 0 true]<|.st none<|.bd λx2 q2=>Cl [] Fo [.agg [.undef,.undef,.slice none 2 0 0 true,.slice none 4 0 0 true]] (ER (d+1) q2)<|.z 10 [.slice none 2 0 0 true,.undef,.undef,.undef,.undef,.undef,.undef,.undef,.undef,.undef,.undef,.undef,.undef,.undef,.undef,.undef,.undef,.undef,.undef]<|.st none<|.bd λx3 q3=>Cl [] Fo [] (BM (d+6) q3)<|.z 11 [.undef,.undef,.slice none 2 0 0 true,.slice none 4 0 0 true]<|.st none<|.bd λx4 q4=>Ln [none] [true] [.agg [.undef,.undef,.slice none 2 0 0 true,.slice none 4 0 0 true]] (λt=>.ob (Qm x4.2.2.2.2.2.2.2.2.2.2.2.2.2.2.2.2.2.2)<|t) (Ny (d+1) q4)<|.z 12 [.slice none 2 0 0 true,.undef,.undef,.undef,.undef,.undef,.undef,.undef,.undef,.undef,.undef,.undef,.undef,.undef,.undef,.undef,.undef,.undef,.undef]<|.st none<|.bd λx8 q8=>Lp [none,none,none,none,none,none,none] [] [.slice none 8 0 0 true,.undef,.undef,.undef,.undef,.undef,.undef] (wZ (d+9) q8)<|.bd λIy QM=>Lp [none,none,none,none,none,none,none] [] [.slice none 8 0 0 true,.undef,.undef,.undef,.undef,.undef,.undef] (w_ (d+9) QM)<|.bd λx18 q18=>.ite (λaaH=>Jn [3,9,10,12] [none,none,none,none] [] [.slice none 8 0 0 true,.undef,.undef,.undef] (wC (il aaH) (nT (d+0) q18))<|Fn Fo [] none) λaaH=>Jn [3,9,10,12] [none,none,none,none] [] [.slice none 8 0 0 true,.undef,.undef,.undef] (wC (Iq aaH) (nT (d+0) q18))<|.bd λx33 q33=>.ite (λaaI=>Lp [none,none,Fo,none,none] [Fo,Fo] [.undef,.undef,.slice none 8 0 0 true,.undef,.undef] (wC (il aaI) (nU (d+2) q33))<|Fn Fo [] none) λaaI=>Lp [none,none,Fo,none,none] [Fo,Fo] [.undef,.undef,.slice none 8 0 0 true,.undef,.undef] (wC (Iq aaI) (nU (d+2) q33))<|.bd λx35 q35=>Cl [] Fo [] (lY (d+6) q35)<|.bd λx36 q36=>Cl [] Fo [] (lY (d+6) q36)<|.bd λx37 q37=>Cb [.agg [.undef,.undef,.slice none 2 0 0 true,.slice none 4 0 0 true],.agg [.undef,.undef,.slice none 2 0 0 true,.slice none 4 0 0 true]] (C_ (d+8) q37)<|.br 106 (λ_=>.bd λx38 q38=>Cl [] Fo [] (lY (d+6) q38)<|.bd λx39 q39=>Cb [.agg [.undef,.undef,.slice none 2 0 0 true,.slice none 4 0 0 true]] (Em (d+0) q39)<|Fn Fo [] none) λ_=>Fn Fo [] none)
theorem ni(n:Int)(m:Nat)(hm:0<m)(hm2:m<1000000000000):∃k:Nat,dR n (m:Int)=some (k:Int)∧k<m:=by
 have h1:=Int.emod_nonneg n (by omega:(m:Int)≠0)
 have h2:=Int.emod_lt_of_pos n (by omega:(0:Int)<(m:Int))
 refine⟨(n%(m:Int)).toNat, ?_,by omega⟩
 rw[Int.toNat_of_nonneg h1]
 unfold dR XK
 rw[if_neg (by omega),au]
 have e1:=Int.tmod_add_mul_tdiv n m
 by_cases h:0≤n.tmod m
 ·rw[bV (by omega),cond_false]
  congr 1
  have e2:n.tmod m<m:=Int.tmod_lt_of_pos n (by omega)
  have e3:n%m=(n.tmod m)%m:=by
   conv=>lhs;rw[←e1]
   rw[Int.add_mul_emod_self_left]
  rw[e3,Int.emod_eq_of_lt h e2]
 ·have e2:-(m:Int)<n.tmod m:=Int.lt_tmod_of_pos n (by omega)
  rw[dB (by omega),cond_true,f_ (by omega) (by omega)]
  congr 1
  have e3:n%m=(n.tmod m+m)%m:=by
   conv=>lhs;rw[←e1]
   rw[Int.add_mul_emod_self_left,Int.add_emod_right]
  rw[e3,Int.emod_eq_of_lt (by omega) (by omega)]
def gk(k:Int)(x:aA):Prop:=x.Seq=0∨(0<x.Seq∧x.Client=k)
def GoodS(s:aQ):Prop:=gk 0 s.l.a0∧gk 1 s.l.a1∧gk 2 s.l.a2∧gk 3 s.l.a3
def eT(s:aQ):List aA:=s.l.zQ.filter (λx=>decide (0<x.Seq))
def iJ:aA:=⟨0,0,⟨0,[]⟩⟩
def lastOf(c:Int)(L:List aA):aA×Bool:=match L.find? (λy=>y.Client==c)with
 | some y=>(y,true)
 | none=>(iJ,false)
def qh(x:aA)(p:Bool×List aA)(y:aA):Bool×List aA :=
 let q:=bif !p.1&&decide (y.Client≥x.Client)then (true,p.2++[x])else p
 bif y.Client != x.Client then (q.1,q.2++[y])else q
def Kj(x:aA)(L:List aA):List aA :=
 let p:=L.foldl (qh x) (false,[])
 bif !p.1 then p.2++[x]else p.2
def BA(x:aA)(L:List aA):Bool×List aA :=
 if x.Client<0∨4≤x.Client∨x.Seq<1∨x.Seq≤(lastOf x.Client L).1.Seq then (false,L)else (true,Kj x L)
theorem Mi (c:Int) (L:List aA) (h:L.length<1000000):∀f:Int→Option (Int⊕(aA⊕Unit)),
  (∀s,f s=cond (decide (s<(L.length:Int))) ((dS L s).bind λ(x4:aA)=>cond (x4.Client==c) ((dS L s).bind λ(x5:aA)=>some (.inr (.inl x5))) (some (.inl (IntKind.i64.wrap (s+1))))) (some (.inr (.inr ())))) →
  gY f KK 0=some (match L.find? (λy=>y.Client==c)with | some y=>.inl y | none=>.inr ()):=by
 intro f hf
 have key:∃e,gY f KK ((0:Nat):Int)=some e∧e=(match L.find? (λy=>y.Client==c)with | some y=>.inl y | none=>.inr ()):=by
  refine rF (λs=>L.length-s.toNat) (λs=>∃i:Nat,s=(i:Int)∧i≤L.length∧L.find? (λy=>y.Client==c)=(L.drop i).find? (λy=>y.Client==c)) _ ?_ KK _ ⟨0,rfl,by omega,rfl⟩ (by have:=EC;omega)
  rintro s ⟨i,rfl,h1,h2⟩
  rw[hf]
  by_cases hi:i<L.length
  ·rw[dB (by omega),cond_true,jq hi,au,au]
   rw[List.drop_eq_getElem_cons hi,List.find?_cons]at h2
   cases e:(L[i].Client==c)
   ·left
    rw[cond_false,f_ (by omega) (by omega),gF]
    rw[e]at h2
    exact⟨_,rfl,⟨i+1,rfl,by omega,h2⟩,by omega⟩
   ·right
    rw[e]at h2
    rw[cond_true,h2]
    exact⟨_,rfl,rfl⟩
  ·right
   rw[bV (by omega),cond_false,h2,List.drop_of_length_le (by omega)]
   exact⟨_,rfl,rfl⟩
 obtain⟨e,e1,rfl⟩:=key
 exact e1
theorem Ic(c:Int)(L:List aA)(h:L.length<1000000):kE c L=some (lastOf c L):=by
 unfold kE nC lastOf
 rw[Mi c L h (ig L c) (λ_=>rfl),au]
 cases L.find? (λy=>y.Client==c)<;>rfl
theorem Mj(x:aA)(L:List aA):∀p:Bool×List aA,(L.foldl (qh x) p).2.length≤p.2.length+2*L.length:=by
 induction L with
 | nil=>intro p;simp
 | cons y L ih =>
  intro p
  refine Nat.le_trans (ih _) ?_
  have:(qh x p y).2.length≤p.2.length+2:=by
   unfold qh
   cases (!p.1&&decide (y.Client≥x.Client))<;>cases (y.Client != x.Client)<;>simp
  simp only[bZ]
  omega
theorem uQ{β:Type}{n:Nat}{x:Option β}(h:n<1000000):gd (fu 40 n) x=x:=by
 refine Dr ?_
 unfold fu
 simp
 omega
theorem Kk(x:aA)(L:List aA)(h:L.length<1000):iP L x (false,0,[])=some (L.foldl (qh x) (false,[])):=by
 have e0:((false,0,[]):Bool×Int×List aA)=(((L.take 0).foldl (qh x) (false,[])).1,((0:Nat):Int),((L.take 0).foldl (qh x) (false,[])).2):=by simp
 unfold iP
 rw[e0]
 refine xP (λi=>(((L.take i).foldl (qh x) (false,[])).1,(i:Int),((L.take i).foldl (qh x) (false,[])).2)) L.length _ (λi hi=>?_) ?_ (by omega)
 ·have h5:(L.take (i+1)).foldl (qh x) (false,[])=qh x ((L.take i).foldl (qh x) (false,[])) L[i]:=by
   rw[dG hi,List.foldl_append]
   rfl
  have h6:=Mj x (L.take i) (false,[])
  have h7:(L.take i).length≤1000:=by rw[aV];omega
  rw[h5]
  generalize (L.take i).foldl (qh x) (false,[])=p at *
  obtain⟨b,o⟩:=p
  have h8:o.length<10000:=by simp at h6;omega
  have h9:∀(l:List aA),o.length≤l.length→l.length≤o.length+2→l.length<1000000:=λl _ _=>by omega
  unfold fV
  simp only
  rw[dB (by omega),cond_true]
  unfold kM kL
  simp only
  rw[jq hi]
  simp only[au]
  unfold qh
  simp only
  rw[f_ (x:=(i:Int)+1) (by omega) (by omega),gF]
  cases b
  ·simp only[Bool.not_false,cond_true,au,Bool.true_and]
   cases (decide (L[i].Client≥x.Client))<;>simp only[cond_true,cond_false,au]
   ·cases (L[i].Client != x.Client)<;>simp only[cond_true,cond_false]
    rw[uQ (by simp;omega)]
   ·rw[uQ (by simp;omega),au]
    cases (L[i].Client != x.Client)<;>simp only[cond_true,cond_false]
    rw[uQ (by simp;omega)]
  ·simp only[Bool.not_true,cond_false,au,Bool.false_and]
   cases (L[i].Client != x.Client)<;>simp only[cond_true,cond_false]
   rw[uQ (by simp;omega)]
 ·unfold fV
  simp only
  rw[bV (by omega),cond_false,List.take_length]
theorem Ie(x:aA)(L:List aA)(h:L.length<1000):h_ x L=some (BA x L):=by
 unfold h_
 rw[Ic _ _ (by omega),au]
 unfold BA gN
 by_cases h1:x.Client<0
 ·rw[dB h1,if_pos (.inl h1)];rfl
 rw[bV h1,cond_false]
 by_cases h2:x.Client≥4
 ·rw[dB h2,if_pos (.inr (.inl h2))];rfl
 rw[bV h2,cond_false]
 by_cases h3:x.Seq<1
 ·rw[dB h3,if_pos (.inr (.inr (.inl h3)))];rfl
 rw[bV h3,cond_false]
 by_cases h4:x.Seq≤(lastOf x.Client L).1.Seq
 ·rw[dB h4,if_pos (.inr (.inr (.inr h4)))];rfl
 rw[bV h4,cond_false,if_neg (by omega),au]
 simp only[nV,cond_false]
 rw[Kk x L h,au]
 unfold gP Kj
 have h6:=Mj x L (false,[])
 simp only
 cases (L.foldl (qh x) (false,[])).1
 ·simp only[Bool.not_false,cond_true]
  rw[uQ (by simp at h6;simp;omega)]
  rfl
 ·rfl
theorem Gh(s:aQ):(eT s).length≤4:=by
 unfold eT
 exact Nat.le_trans (List.length_filter_le _ _) (by simp[A4.zQ])
theorem QU(x:aA)(s:aQ)(hs:GoodS s):∃b s',bW x s=some (b,s')∧GoodS s'∧BA x (eT s)=(b,eT s'):=by
 by_cases h1:x.Client<0
 ·exact⟨false,s,by unfold bW dh;rw[dB h1];rfl,hs,by unfold BA;rw[if_pos (.inl h1)]⟩
 by_cases h2:x.Client≥4
 ·exact⟨false,s,by unfold bW dh;rw[bV h1,dB h2];rfl,hs,by unfold BA;rw[if_pos (.inr (.inl h2))]⟩
 by_cases h3:x.Seq<1
 ·exact⟨false,s,by unfold bW dh;rw[bV h1,bV h2,dB h3];rfl,hs,by unfold BA;rw[if_pos (.inr (.inr (.inl h3)))]⟩
 have hx:0<x.Seq:=by omega
 have step:∀a:aA,dS s.l.zQ x.Client=some a→(lastOf x.Client (eT s)).1.Seq=a.Seq→GoodS ⟨s.l.set x.Client x⟩→Kj x (eT s)=eT ⟨s.l.set x.Client x⟩ →
   ∃b s',bW x s=some (b,s')∧GoodS s'∧BA x (eT s)=(b,eT s'):=by
  intro a ha hl hg hn
  by_cases h4:x.Seq≤a.Seq
  ·exact⟨false,s,by unfold bW dh;rw[bV h1,bV h2,bV h3,ha];simp only[cond_false,au];rw[dB h4];rfl,hs,by unfold BA;rw[if_pos (.inr (.inr (.inr (by rw[hl];exact h4))))]⟩
  ·refine⟨true,⟨s.l.set x.Client x⟩, ?_,hg, ?_⟩
   ·unfold bW dh
    rw[bV h1,bV h2,bV h3,ha]
    simp only[cond_false,au]
    rw[bV h4]
    rfl
   ·unfold BA
    rw[if_neg (by rw[hl];omega),hn]
 obtain⟨⟨a0,a1,a2,a3⟩⟩:=s
 obtain⟨g0,g1,g2,g3⟩:=hs
 simp only at g0 g1 g2 g3
 have hc:x.Client=0∨x.Client=1∨x.Client=2∨x.Client=3:=by omega
 rcases hc with hc | hc | hc | hc
 ·refine step a0 (by rw[hc];rfl) ?_ ?_ ?_
  ·rcases g0 with k0 |⟨k0,q0⟩<;>rcases g1 with k1 |⟨k1,q1⟩<;>rcases g2 with k2 |⟨k2,q2⟩<;>rcases g3 with k3 |⟨k3,q3⟩<;>simp[lastOf,eT,A4.zQ,iJ, *]
  ·rw[hc];exact⟨.inr ⟨hx,hc⟩,g1,g2,g3⟩
  ·rcases g0 with k0 |⟨k0,q0⟩<;>rcases g1 with k1 |⟨k1,q1⟩<;>rcases g2 with k2 |⟨k2,q2⟩<;>rcases g3 with k3 |⟨k3,q3⟩<;>simp[Kj,qh,eT,A4.zQ,A4.set, *]
 ·refine step a1 (by rw[hc];rfl) ?_ ?_ ?_
  ·rcases g0 with k0 |⟨k0,q0⟩<;>rcases g1 with k1 |⟨k1,q1⟩<;>rcases g2 with k2 |⟨k2,q2⟩<;>rcases g3 with k3 |⟨k3,q3⟩<;>simp[lastOf,eT,A4.zQ,iJ, *]
  ·rw[hc];exact⟨g0,.inr ⟨hx,hc⟩,g2,g3⟩
  ·rcases g0 with k0 |⟨k0,q0⟩<;>rcases g1 with k1 |⟨k1,q1⟩<;>rcases g2 with k2 |⟨k2,q2⟩<;>rcases g3 with k3 |⟨k3,q3⟩<;>simp[Kj,qh,eT,A4.zQ,A4.set, *]
 ·refine step a2 (by rw[hc];rfl) ?_ ?_ ?_
  ·rcases g0 with k0 |⟨k0,q0⟩<;>rcases g1 with k1 |⟨k1,q1⟩<;>rcases g2 with k2 |⟨k2,q2⟩<;>rcases g3 with k3 |⟨k3,q3⟩<;>simp[lastOf,eT,A4.zQ,iJ, *]
  ·rw[hc];exact⟨g0,g1,.inr ⟨hx,hc⟩,g3⟩
  ·rcases g0 with k0 |⟨k0,q0⟩<;>rcases g1 with k1 |⟨k1,q1⟩<;>rcases g2 with k2 |⟨k2,q2⟩<;>rcases g3 with k3 |⟨k3,q3⟩<;>simp[Kj,qh,eT,A4.zQ,A4.set, *]
 ·refine step a3 (by rw[hc];rfl) ?_ ?_ ?_
  ·rcases g0 with k0 |⟨k0,q0⟩<;>rcases g1 with k1 |⟨k1,q1⟩<;>rcases g2 with k2 |⟨k2,q2⟩<;>rcases g3 with k3 |⟨k3,q3⟩<;>simp[lastOf,eT,A4.zQ,iJ, *]
  ·rw[hc];exact⟨g0,g1,g2,.inr ⟨hx,hc⟩⟩
  ·rcases g0 with k0 |⟨k0,q0⟩<;>rcases g1 with k1 |⟨k1,q1⟩<;>rcases g2 with k2 |⟨k2,q2⟩<;>rcases g3 with k3 |⟨k3,q3⟩<;>simp[Kj,qh,eT,A4.zQ,A4.set, *]
def oU:aQ:=⟨⟨iJ,iJ,iJ,iJ⟩⟩
def oW(s:aQ)(x:aA):aQ:=match bW x s with
 | some r=>r.2
 | none=>s
theorem uR(x:aA)(s:aQ)(hs:GoodS s):(∃b,bW x s=some (b,oW s x)∧BA x (eT s)=(b,eT (oW s x)))∧GoodS (oW s x):=by
 obtain⟨b,s',e1,e2,e3⟩:=QU x s hs
 have:oW s x=s':=by unfold oW;rw[e1]
 rw[this]
 exact⟨⟨b,e1,e3⟩,e2⟩
theorem Ay(l:List aA):∀s,GoodS s→GoodS (l.foldl oW s):=by
 induction l with
 | nil=>exact λs h=>h
 | cons x l ih=>exact λs h=>ih _ (uR x s h).2
theorem WA(l:List aA)(h:l.length<1000000000):∃s,jf l=some s∧GoodS s∧qH l=some ⟨eT s⟩:=by
 have g0:GoodS oU:=⟨.inl rfl,.inl rfl,.inl rfl,.inl rfl⟩
 refine⟨l.foldl oW oU, ?_,Ay l _ g0, ?_⟩
 ·unfold jf
  have key:pU l (0,oU)=some (l.foldl oW oU):=by
   refine xP (λi=>((i:Int),(l.take i).foldl oW oU)) l.length _ (λi hi=>?_) ?_ (by omega)
   ·obtain⟨⟨b,e1,_⟩,_⟩:=uR l[i] _ (Ay (l.take i) _ g0)
    unfold gB
    simp only
    rw[dB (by omega),cond_true,jq hi,au,e1,au,f_ (by omega) (by omega),gF,dG hi,List.foldl_append]
    rfl
   ·unfold gB
    simp only
    rw[bV (by omega),cond_false,List.take_length]
  have e:(0,oU)=((0:Int),(⟨(⟨(⟨0,0,(⟨0,([]:List UInt8)⟩:aH)⟩:aA),(⟨0,0,(⟨0,([]:List UInt8)⟩:aH)⟩:aA),(⟨0,0,(⟨0,([]:List UInt8)⟩:aH)⟩:aA),(⟨0,0,(⟨0,([]:List UInt8)⟩:aH)⟩:aA)⟩:A4 aA)⟩:aQ)):=rfl
  rw[←e,key]
  rfl
 ·unfold qH
  have key:uO l (0,[])=some (eT (l.foldl oW oU)):=by
   refine xP (λi=>((i:Int),eT ((l.take i).foldl oW oU))) l.length _ (λi hi=>?_) ?_ (by omega)
   ·obtain⟨⟨b,_,e1⟩,_⟩:=uR l[i] _ (Ay (l.take i) _ g0)
    have hl:=Gh ((l.take i).foldl oW oU)
    unfold iQ
    simp only
    rw[dB (by omega),cond_true,jq hi,au,Ie _ _ (by omega),au,e1,f_ (by omega) (by omega),gF,dG hi,List.foldl_append]
    rfl
   ·unfold iQ
    simp only
    rw[bV (by omega),cond_false,List.take_length]
  rw[key]
  rfl
theorem Kl(n:Int):∃v,mZ n=some v:=by
 obtain⟨k,hk,h⟩:=ni n 6 (by omega) (by omega)
 unfold mZ
 rw[show(6:Int)=((6:Nat):Int)from rfl,hk,au,jq (by simpa using h),au]
 exact⟨_,rfl⟩
theorem nu(n:Int)(m:Nat)(h:0<m)(h2:m<1000000000000):∃k,dR n (m:Int)=some k:=by
 obtain⟨k,hk,_⟩:=ni n m h h2
 exact⟨_,hk⟩
theorem WB(n:Int):∃v,EH n=some v:=by
 obtain⟨a,ha⟩:=nu n 7 (by omega) (by omega)
 obtain⟨b,hb⟩:=nu (IntKind.i64.wrap (Int.tdiv n 7)) 40 (by omega) (by omega)
 obtain⟨c,hc,hc2⟩:=ni (IntKind.i64.wrap (Int.tdiv n 7)) 63 (by omega) (by omega)
 obtain⟨d,hd⟩:=nu (IntKind.i64.wrap (Int.tdiv n 441)) 3 (by omega) (by omega)
 obtain⟨e,he⟩:=nu (IntKind.i64.wrap (Int.tdiv n 7)) 3 (by omega) (by omega)
 obtain⟨f,hf⟩:=nu (IntKind.i64.wrap (Int.tdiv n 7)) 1000 (by omega) (by omega)
 have hs:U2 .i64 1 (IntKind.u64.wrap (c:Int))=some (IntKind.i64.wrap (1*2 ^ (min (IntKind.u64.wrap (c:Int)).toNat IntKind.i64.bits))):=by
  unfold U2
  rw[if_neg (by have:=OQ (c:Int);omega)]
 have hj:∃b,Af a n=some b:=by
  unfold Af
  cases (a==0)<;>cases (a==1)<;>exact⟨_,rfl⟩
 obtain⟨j,hj⟩:=hj
 unfold EH
 rw[show(7:Int)=((7:Nat):Int)from rfl,ha,au,hj,au]
 cases j
 ·rw[cond_false]
  cases (a==3)
  ·rw[cond_false]
   cases (a==4)
   ·rw[cond_false]
    cases (a==5)
    ·exact⟨_,rfl⟩
    ·rw[cond_true,show(1000:Int)=((1000:Nat):Int)from rfl,show((7:Nat):Int)=7 from rfl,hf]
     exact⟨_,rfl⟩
   ·rw[cond_true,show(3:Int)=((3:Nat):Int)from rfl,show((7:Nat):Int)=7 from rfl,he]
    exact⟨_,rfl⟩
  ·rw[cond_true,show(63:Int)=((63:Nat):Int)from rfl,show((7:Nat):Int)=7 from rfl,hc,au,hs,au,show(3:Int)=((3:Nat):Int)from rfl,hd]
   exact⟨_,rfl⟩
 ·rw[cond_true,show(40:Int)=((40:Nat):Int)from rfl,show((7:Nat):Int)=7 from rfl,hb]
  exact⟨_,rfl⟩
theorem WC(n:Int):∃v,Bb n=some v:=by
 obtain⟨k,hk,h⟩:=ni n 16 (by omega) (by omega)
 unfold Bb
 rw[show(16:Int)=((16:Nat):Int)from rfl,hk,au,jq (by simpa using h),au]
 exact⟨_,rfl⟩
theorem Zr(a b c d:Int):∃o,CF a b c d=some o:=by
 obtain⟨x1,h1⟩:=nu a 4 (by omega) (by omega)
 obtain⟨x2,h2⟩:=WC b
 obtain⟨x4,h4⟩:=Kl c
 obtain⟨x6,h6⟩:=Kl d
 have k4:((4:Nat):Int)=4:=rfl
 rw[k4]at h1
 unfold CF
 rw[h1,au,h2,au]
 unfold CB Cz
 rw[h4,h6]
 simp only[au]
 cases (IntKind.i64.wrap (1+x1)==2)<;>cases q:(IntKind.i64.wrap (1+x1)==4)<;>simp[q]
theorem Ml(s:List UInt8)(n:Nat):∃v,Du s (n:Int)=some v:=by
 unfold Du
 by_cases c:n<s.length
 ·rw[dB (by omega),cond_true,Qp s n (by omega)];exact⟨_,rfl⟩
 ·rw[bV (by omega)];exact⟨_,rfl⟩
theorem WE(x:bK):∃r,CG x=some r:=by
 obtain⟨x1,h1⟩:=nu x.Client 4 (by omega) (by omega)
 obtain⟨x2,h2⟩:=nu x.Seq 9 (by omega) (by omega)
 obtain⟨x3,h3⟩:=Zr x.Kind x.Key x.Value x.Old
 obtain⟨x4,h4⟩:=nu x.Ir 16 (by omega) (by omega)
 obtain⟨x5,h5⟩:=Ml x.Text 12
 obtain⟨x6,h6⟩:=Ml x.Text 20
 obtain⟨x7,h7⟩:=nu (IntKind.i64.wrap (Int.tdiv x.Ir 16)) 8 (by omega) (by omega)
 obtain⟨x8,h8⟩:=nu (IntKind.i64.wrap (Int.tdiv x.Ir 16)) 9 (by omega) (by omega)
 obtain⟨x9,h9⟩:=WB (IntKind.i64.wrap (Int.tdiv x.Ir 16))
 have k4:((4:Nat):Int)=4:=rfl
 have k8:((8:Nat):Int)=8:=rfl
 have k9:((9:Nat):Int)=9:=rfl
 have k12:((12:Nat):Int)=12:=rfl
 have k16:((16:Nat):Int)=16:=rfl
 have k20:((20:Nat):Int)=20:=rfl
 rw[k4]at h1;rw[k9]at h2 h8;rw[k16]at h4;rw[k12]at h5;rw[k20]at h6;rw[k8]at h7
 unfold CG
 rw[h1,au,h2,au,h3,au,h4,au,h5,h6,h7,h8,h9]
 cases (x4==10)<;>cases (x4==11)<;>cases (x4==12)<;>cases (x4==13)<;>cases (x4==14)<;>cases (x4==15)<;>exact⟨_,rfl⟩
theorem WG(a:List UInt8):Op.bytesLess a []=false:=by cases a<;>rfl
theorem Da:∀a b c,Op.bytesLess a b=true→Op.bytesLess b c=true→Op.bytesLess a c=true
 | a,[],c=>λh=>by rw[WG]at h;cases h
 | a,y::b,[]=>λ_ h=>by rw[WG]at h;cases h
 | [],y::b,z::c=>λ_ _=>rfl
 | x::a,y::b,z::c=>by
  simp only[Op.bytesLess,Bool.or_eq_true,Bool.and_eq_true,decide_eq_true_eq,beq_iff_eq,UInt8.lt_iff_toNat_lt,←UInt8.toNat_inj]
  rintro(h |⟨h,h'⟩) (g |⟨g,g'⟩)
  ·left;omega
  ·left;omega
  ·left;omega
  ·right;exact⟨by omega,Da a b c h' g'⟩
theorem Pp:∀a b,Op.bytesLess a b=false→a≠b→Op.bytesLess b a=true
 | [],[]=>λ_ h=>absurd rfl h
 | [],y::b=>λh=>by cases h
 | x::a,[]=>λ_ _=>rfl
 | x::a,y::b=>by
  intro h hn
  by_cases e:x=y
  ·subst e
   have:Op.bytesLess a b=false:=by
    simpa[Op.bytesLess]using h
   have:=Pp a b this (λq=>hn (by rw[q]))
   simp[Op.bytesLess,this]
  ·have h1:¬x<y:=by
    intro q
    simp[Op.bytesLess,q]at h
   have:y<x:=by
    rw[UInt8.lt_iff_toNat_lt]at *
    rw[←UInt8.toNat_inj]at e
    omega
   simp[Op.bytesLess,this]
theorem Mq(p:aB)(key:List UInt8):iU p key=some (if Op.bytesLess p.Key key then -1 else if p.Key=key then 0 else 1):=by
 unfold iU mO cmp_isNaN_string
 simp only[beq_self_eq_true,Bool.not_true,au,cond_false]
 cases h:Op.bytesLess p.Key key
 ·by_cases e:p.Key=key
  ·rw[if_neg (by simp),if_pos e];simp[e]
  ·rw[if_neg (by simp),if_neg e]
   have:(p.Key==key)=false:=by simpa using e
   simp[this]
 ·simp
def EY(L:List aB):Prop:=(L.map (·.Key)).Pairwise (λa b=>Op.bytesLess a b=true)
def place(L:List aB)(key:List UInt8):Nat:=(L.takeWhile (λp=>Op.bytesLess p.Key key)).length
def rX(L:List aB)(key:List UInt8):Bool:=match L[place L key]? with
 | some p=>p.Key==key
 | none=>false
def NH(L:List aB)(key:List UInt8):aB:=(L[place L key]?).getD ⟨[],[]⟩
theorem Db(L:List aB)(key:List UInt8):place L key≤L.length:=(List.takeWhile_sublist _).length_le
theorem Dc(key:List UInt8):∀(L:List aB) (k:Nat),k≤L.length→(∀i (h:i<L.length),i<k→Op.bytesLess L[i].Key key=true)→(∀h:k<L.length,Op.bytesLess L[k].Key key=false)→k=place L key
 | [],k=>λh _ _=>by simp[place]at *;exact h
 | p::L,0=>λh _ g=>by
  have:=g (by simp)
  simp at this
  simp[place,List.takeWhile_cons,this]
 | p::L,k+1=>λh f g=>by
  have h1:=f 0 (by simp) (by omega)
  have h2:=Dc key L k (by simpa using h) (λi hi hk=>by have:=f (i+1) (by simpa using hi) (by omega);simpa using this) (λhk=>by have:=g (by simpa using hk);simpa using this)
  simp at h1
  simp[place,List.takeWhile_cons,h1]at *
  exact h2
theorem Pq(key:List UInt8):∀(L:List aB) (i:Nat) (h:i<L.length),i<place L key→Op.bytesLess L[i].Key key=true
 | [],i=>λh=>by simp at h
 | p::L,i=>λh hp=>by
  cases e:Op.bytesLess p.Key key
  ·simp[place,List.takeWhile_cons,e]at hp
  ·cases i with
   | zero=>simpa using e
   | succ i =>
    simp[place,List.takeWhile_cons,e]at hp
    have:=Pq key L i (by simpa using h) (by unfold place;omega)
    simpa using this
theorem Km(key:List UInt8):∀(L:List aB) (h:place L key<L.length),Op.bytesLess L[place L key].Key key=false
 | []=>λh=>by simp at h
 | p::L=>λh=>by
  cases e:Op.bytesLess p.Key key
  ·have:place (p::L) key=0:=by simp[place,List.takeWhile_cons,e]
   simp only[this]
   simpa using e
  ·have q:place (p::L) key=place L key+1:=by simp[place,List.takeWhile_cons,e]
   simp only[q]at h ⊢
   have:=Km key L (by simpa using h)
   simpa using this
theorem Kn(L:List aB)(key:List UInt8)(h:place L key<L.length):rX L key=(L[place L key].Key==key):=by
 unfold rX
 rw[bn h]
theorem Nz(L:List aB)(key:List UInt8)(h:¬place L key<L.length):rX L key=false:=by
 unfold rX
 rw[List.getElem?_eq_none (by omega)]
theorem kR{L:List aB}{key:List UInt8}(h:rX L key=true):place L key<L.length:=by
 by_cases c:place L key<L.length
 ·exact c
 ·rw[Nz L key c]at h;cases h
theorem Df{L:List aB}{key:List UInt8}(h:place L key<L.length):dS L (place L key:Int)=some (NH L key):=by
 unfold NH
 rw[jq h,bn h]
 rfl
theorem Gi{L:List aB}{key:List UInt8}(h:rX L key=true):(NH L key).Key=key:=by
 have c:=kR h
 rw[Kn L key c]at h
 unfold NH
 rw[bn c]
 simpa using h
theorem Dv{L:List aB}(h:EY L){i j:Nat}(hj:j<L.length)(hi:i<j):Op.bytesLess (L[i]'(by omega)).Key L[j].Key=true:=by
 unfold EY at h
 rw[List.pairwise_iff_getElem]at h
 have:=h i j (by simp;omega) (by simpa using hj) hi
 simpa using this
theorem Ko(L:List aB)(key:List UInt8)(hs:EY L)(hl:L.length≤1000):bX L key=some ((place L key:Int),rX L key):=by
 have key1:∃e,dX L key (((0:Nat):Int),(L.length:Int))=some e∧e=(place L key:Int):=by
  refine rF (λs=>(s.2-s.1).toNat) (λs=>∃i j:Nat,s=((i:Int),(j:Int))∧i≤j∧j≤L.length∧(∀m (h:m<L.length),m<i→Op.bytesLess L[m].Key key=true)∧(∀m (h:m<L.length),j≤m→Op.bytesLess L[m].Key key=false)) _ ?_ KK _ ⟨0,L.length,rfl,by omega,by omega,λ_ _ h=>by omega,λ_ _ h=>by omega⟩ (by have:=EC;simp only;omega)
  rintro s ⟨i,j,rfl,h1,h2,h3,h4⟩
  simp only[bY]
  by_cases c:i<j
  ·left
   have hm:IntKind.i64.wrap (SG .u64 (IntKind.u64.wrap (IntKind.i64.wrap ((i:Int)+(j:Int)))) 1)=(((i+j)/2:Nat):Int):=by
    rw[f_ (x:=(i:Int)+j) (by omega) (by omega),U_ (by omega) (by omega)]
    have:SG .u64 ((i:Int)+(j:Int)) 1=(((i+j)/2:Nat):Int):=by
     have e:SG .u64 ((i:Int)+(j:Int)) 1=((i:Int)+(j:Int)).fdiv 2:=rfl
     rw[e,Int.fdiv_eq_ediv_of_nonneg _ (by omega)]
     omega
    rw[this,f_ (by omega) (by omega)]
   rw[hm]
   have hb:(i+j)/2<L.length:=by omega
   rw[dB (by omega),cond_true,jq hb,au,Mq,au]
   cases e:Op.bytesLess L[(i+j)/2].Key key
   ·have c0:(if (false=true)then (-1:Int)else if L[(i+j)/2].Key=key then 0 else 1)=(if L[(i+j)/2].Key=key then 0 else 1):=by simp
    rw[c0,bV (by split<;>omega),cond_false]
    refine⟨_,rfl,⟨i,(i+j)/2,rfl,by omega,by omega,h3,λm hm2 hm3=>?_⟩,by simp only;omega⟩
    by_cases q:m=(i+j)/2
    ·subst q;exact e
    ·have r:=Dv hs hm2 (show(i+j)/2<m by omega)
     cases z:Op.bytesLess L[m].Key key
     ·rfl
     ·rw[Da _ _ _ r z]at e;cases e
   ·rw[if_pos rfl,dB (by omega),cond_true,f_ (x:=(((i+j)/2:Nat):Int)+1) (by omega) (by omega),gF]
    refine⟨_,rfl,⟨(i+j)/2+1,j,rfl,by omega,h2,λm hm2 hm3=>?_,h4⟩,by simp only;omega⟩
    by_cases q:m=(i+j)/2
    ·subst q;exact e
    ·exact Da _ _ _ (Dv hs hb (show m<(i+j)/2 by omega)) e
  ·right
   obtain rfl:i=j:=by omega
   rw[bV (by omega),cond_false]
   refine⟨_,rfl, ?_⟩
   rw[←Dc key L i h2 h3 (λh=>h4 i h (by omega))]
 obtain⟨e,e1,rfl⟩:=key1
 unfold bX
 rw[show((0:Int),(L.length:Int))=(((0:Nat):Int),(L.length:Int))from rfl,e1,au]
 by_cases c:place L key<L.length
 ·rw[dB (by omega),cond_true,jq c,au,Mq,au,Kn L key c,Km key L c]
  by_cases q:L[place L key].Key=key
  ·simp[q]
  ·have:(L[place L key].Key==key)=false:=by simpa using q
   simp[q]
 ·rw[bV (by omega),cond_false,Nz L key c]
theorem abJ (L:List aB) (key:List UInt8) (hl:L.length≤1000) (f:Int→Option (Int⊕((Int×Bool)⊕Unit)))
  (hf:∀s3,f s3=cond (decide (s3<(L.length:Int))) ((dS L s3).bind λ(x4:aB)=>cond (!(Op.bytesLess x4.Key key)) ((dS L s3).bind λ(x5:aB)=>some (.inr (.inl (s3,(x5.Key==key))))) (some (.inl (IntKind.i64.wrap (s3+1))))) (some (.inr (.inr ())))) :
  ∃e,gY f KK 0=some e∧cond (nV e) (some ((FR e).1,(FR e).2)) (some ((L.length:Int),false))=some ((place L key:Int),rX L key):=by
 refine rF (λs=>(L.length-s.toNat)) (λs=>∃i:Nat,s=(i:Int)∧i≤L.length∧(∀m (h:m<L.length),m<i→Op.bytesLess L[m].Key key=true)) _ ?_ KK _ ⟨0,rfl,by omega,λ_ _ h=>by omega⟩ (by have:=EC;omega)
 rintro s ⟨i,rfl,h1,h2⟩
 rw[hf]
 by_cases c:i<L.length
 ·rw[dB (by omega),cond_true,jq c,au]
  cases e:Op.bytesLess L[i].Key key
  ·right
   refine⟨_,rfl, ?_⟩
   have q:=Dc key L i h1 h2 (λ_=>e)
   have w:=Kn L key (by rw[←q];exact c)
   simp only[nV,FR,cond_true]
   rw[w]
   subst q
   rfl
  ·left
   simp only[Bool.not_true,cond_false]
   rw[f_ (by omega) (by omega),gF]
   refine⟨_,rfl,⟨i+1,rfl,by omega,λm hm q=>?_⟩,by omega⟩
   by_cases z:m=i
   ·subst z;exact e
   ·exact h2 m hm (by omega)
 ·right
  rw[bV (by omega),cond_false]
  refine⟨_,rfl, ?_⟩
  have q:=Dc key L i h1 h2 (λh=>absurd h c)
  have w:=Nz L key (by rw[←q];exact c)
  simp only[nV,cond_false]
  rw[w,←q]
  congr 2
  omega
theorem WI(L:List aB)(key:List UInt8)(hl:L.length≤1000):lu key L=some ((place L key:Int),rX L key):=by
 obtain⟨e,e1,e2⟩:=abJ L key hl (jh L key) (λ_=>rfl)
 unfold lu rz
 rw[e1,au,e2]
theorem NA(a b:Int):(a==b)=decide (a=b):=XR a b
def kJ(o:bG):Bool :=
 decide (1≤o.Kind)&&decide (o.Kind≤4)&&decide (1≤o.Key.length)&&decide (o.Key.length≤8)&&decide (o.Value.length≤16)&&decide (o.Old.length≤16) &&
  (decide (o.Kind=2)||decide (o.Kind=4)||decide (o.Value=[]))&&(decide (o.Kind=4)||decide (o.Old=[]))
theorem RX(l:List UInt8):(l==([]:List UInt8))=decide (l=[]):=by cases l<;>rfl
theorem Dg(o:bG):mF o=some (kJ o):=by
 unfold mF tq tF tC tu kJ
 simp only[RX,NA]
 by_cases h1:o.Kind<1
 ·rw[dB h1,bV (show ¬o.Kind=2 by omega),bV (show ¬o.Kind=4 by omega),bV (show ¬ 1≤o.Kind by omega)];simp[nV]
 by_cases h2:o.Kind>4
 ·simp[h1,h2,nV,show ¬o.Kind≤4 by omega,show ¬o.Kind=2 by omega,show ¬o.Kind=4 by omega]
 by_cases h3:o.Key=[]
 ·by_cases a:o.Kind=2<;>by_cases b:o.Kind=4<;>simp[h1,h2,h3,nV,a,b]
 have h3':1≤o.Key.length:=by
  cases e:o.Key with
  | nil=>exact absurd e h3
  | cons _ _=>simp
 by_cases h4:o.Key.length≤8
 case neg =>
  have:(o.Key.length:Int)>8:=by omega
  by_cases a:o.Kind=2<;>by_cases b:o.Kind=4<;>simp[h1,h2,h3,h4,nV,a,b,this]
 by_cases h5:o.Value.length≤16
 case neg =>
  have:(o.Value.length:Int)>16:=by omega
  by_cases a:o.Kind=2<;>by_cases b:o.Kind=4<;>simp[h1,h2,h3,h4,h5,nV,a,b,this]
 by_cases h6:o.Old.length≤16
 case neg =>
  have:(o.Old.length:Int)>16:=by omega
  by_cases a:o.Kind=2<;>by_cases b:o.Kind=4<;>simp[h1,h2,h3,h4,h5,h6,nV,a,b,this]
 have e4:¬(o.Key.length:Int)>8:=by omega
 have e5:¬(o.Value.length:Int)>16:=by omega
 have e6:¬(o.Old.length:Int)>16:=by omega
 rw[bV h1,bV h2,bV e4,bV e5,bV e6,bV h3,dB (show 1≤o.Kind by omega),dB (show o.Kind≤4 by omega),dB h3',dB h4,dB h5,dB h6]
 by_cases a:o.Kind=2<;>by_cases b:o.Kind=4<;>by_cases c:o.Value=[]<;>simp[nV,a,b,c]<;>omega
theorem Bd(o:bG):ru o=some (kJ o):=by
 unfold ru uX kJ
 simp only[RX,NA]
 by_cases h1:o.Kind<1
 ·simp[h1,nV,show ¬ 1≤o.Kind by omega]
 by_cases h2:o.Kind>4
 ·simp[h1,h2,nV,show ¬o.Kind≤4 by omega,show ¬o.Kind=2 by omega,show ¬o.Kind=4 by omega]
 by_cases h3:1≤o.Key.length
 case neg =>
  have:(o.Key.length:Int)<1:=by omega
  simp[h1,h2,h3,nV,this]
 by_cases h4:o.Key.length≤8
 case neg =>
  have:(o.Key.length:Int)>8:=by omega
  have h3':¬(o.Key.length:Int)<1:=by omega
  simp[h1,h2,h3',h4,nV,this]
 by_cases h5:o.Value.length≤16
 case neg =>
  have:(o.Value.length:Int)>16:=by omega
  have h3':¬(o.Key.length:Int)<1:=by omega
  have h4':¬(o.Key.length:Int)>8:=by omega
  simp[h1,h2,h3',h4',h5,nV,this]
 by_cases h6:o.Old.length≤16
 case neg =>
  have:(o.Old.length:Int)>16:=by omega
  have h3':¬(o.Key.length:Int)<1:=by omega
  have h4':¬(o.Key.length:Int)>8:=by omega
  have h5':¬(o.Value.length:Int)>16:=by omega
  simp[h1,h2,h3',h4',h5',h6,nV,this]
 have e3:¬(o.Key.length:Int)<1:=by omega
 have e4:¬(o.Key.length:Int)>8:=by omega
 have e5:¬(o.Value.length:Int)>16:=by omega
 have e6:¬(o.Old.length:Int)>16:=by omega
 rw[bV h1,bV h2,bV e3,bV e4,bV e5,bV e6,dB (show 1≤o.Kind by omega),dB (show o.Kind≤4 by omega),dB h3,dB h4,dB h5,dB h6]
 by_cases a:o.Kind=2<;>by_cases b:o.Kind=4<;>by_cases c:o.Value=[]<;>by_cases d:o.Old=[]<;>simp[nV,a,b,c,d]<;>omega
theorem Bf{o:bG}(h:kJ o=true):1≤o.Kind∧o.Kind≤4:=by
 unfold kJ at h
 simp only[Bool.and_eq_true,decide_eq_true_eq]at h
 omega
def E5(o:bG)(L:List aB):aH×List aB :=
 if kJ o=false then (⟨1,[]⟩,L)
 else if o.Kind=2 then
  if rX L o.Key=true then (⟨0,[]⟩,L.set (place L o.Key) ⟨o.Key,o.Value⟩)
  else if L.length=8 then (⟨5,[]⟩,L)else (⟨0,[]⟩,vS L (place L o.Key) ⟨o.Key,o.Value⟩)
 else if rX L o.Key=false then (⟨4,[]⟩,L)
 else if o.Kind=1 then (⟨0,(NH L o.Key).Value⟩,L)
 else if o.Kind=4 then (if (NH L o.Key).Value=o.Old then (⟨0,[]⟩,L.set (place L o.Key) ⟨o.Key,o.Value⟩)else (⟨6,(NH L o.Key).Value⟩,L))
 else (⟨0,[]⟩,zw L (place L o.Key) ((place L o.Key:Int)+1))
def NI(L:List aB):Prop:=EY L∧L.length≤8
theorem WJ(L:List aB)(k:Nat)(p:aB)(h:k<L.length)(e:L[k].Key=p.Key):(L.set k p).map (·.Key)=L.map (·.Key):=by
 apply List.ext_getElem
 ·simp
 ·intro i h1 h2
  simp only[List.getElem_map,List.getElem_set]
  split
  ·next q=>subst q;exact e.symm
  ·rfl
theorem WK{L:List aB}(h:NI L){key v:List UInt8}(hd:rX L key=true):NI (L.set (place L key) ⟨key,v⟩):=by
 have c:=kR hd
 have e:L[place L key].Key=key:=by rw[Kn L key c]at hd;simpa using hd
 refine⟨?_,by rw[bO];exact h.2⟩
 unfold EY
 rw[WJ L _ _ c e]
 exact h.1
theorem aaJ{L:List aB}(h:NI L){key v:List UInt8}(hd:rX L key=false)(hl:L.length≠8):NI (vS L (place L key) ⟨key,v⟩):=by
 have pl:=Db L key
 refine⟨?_,by simp only[vS,aJ,aV,bZ,aS];have:=h.2;omega⟩
 unfold EY vS
 rw[bC,List.map_append,List.map_cons,List.pairwise_append]
 have hr:=h.1
 unfold EY at hr
 have ht:∀a∈(L.take (place L key)).map (·.Key),Op.bytesLess a key=true:=by
  intro a ha
  rw[List.mem_map]at ha
  obtain⟨p,hp,rfl⟩:=ha
  obtain⟨i,hi,rfl⟩:=List.mem_iff_getElem.1 hp
  simp only[aV]at hi
  rw[List.getElem_take]
  exact Pq key L i (by omega) (by omega)
 have hdr:∀a∈(L.drop (place L key)).map (·.Key),Op.bytesLess key a=true:=by
  intro a ha
  rw[List.mem_map]at ha
  obtain⟨p,hp,rfl⟩:=ha
  obtain⟨i,hi,rfl⟩:=List.mem_iff_getElem.1 hp
  simp only[aS]at hi
  rw[List.getElem_drop]
  have c:place L key<L.length:=by omega
  have f:Op.bytesLess key L[place L key].Key=true:=by
   refine Pp _ _ (Km key L c) (λq=>?_)
   rw[Kn L key c,q]at hd
   simp at hd
  cases i with
  | zero=>simpa using f
  | succ i=>exact Da _ _ _ f (Dv h.1 (by omega) (by omega))
 refine⟨?_, ?_, ?_⟩
 ·exact List.Pairwise.sublist ((List.take_sublist _ _).map _) hr
 ·rw[List.pairwise_cons]
  exact⟨hdr,List.Pairwise.sublist ((List.drop_sublist _ _).map _) hr⟩
 ·intro a ha b hb
  rcases List.mem_cons.1 hb with rfl | hb
  ·exact ht a ha
  ·exact Da _ _ _ (ht a ha) (hdr b hb)
theorem aaK{L:List aB}(h:NI L)(k:Nat)(hk:k<L.length):NI (zw L k ((k:Int)+1)):=by
 have e:zw L k ((k:Int)+1)=L.eraseIdx k:=by
  unfold zw
  rw[bC,show((k:Int)+1).toNat=k+1 by omega,List.eraseIdx_eq_take_drop_succ]
 rw[e]
 exact⟨List.Pairwise.sublist ((List.eraseIdx_sublist _ _).map _) h.1,Nat.le_trans (List.eraseIdx_sublist _ _).length_le h.2⟩
theorem WL{L:List aB}(h:NI L)(o:bG):NI (E5 o L).2:=by
 unfold E5
 split
 ·exact h
 split
 ·split
  ·next hd=>exact WK h hd
  ·next hd =>
   split
   ·exact h
   ·next hl=>exact aaJ h (by simpa using hd) hl
 split
 ·exact h
 next hd =>
 have hd:rX L o.Key=true:=by simpa using hd
 split
 ·exact h
 split
 ·split
  ·exact WK h hd
  ·exact h
 ·exact aaK h _ (kR hd)
theorem ug{β:Type}{n:Nat}{x:Option β}(h:n≤100):gd (fu 32 n) x=x:=XQ (by omega) (by omega)
theorem abK{L:List aB}{key v:List UInt8}(h:NI L)(hd:rX L key=true):(gd (fu 32 L.length) ((dS L (place L key:Int)).bind λ(x2:aB)=>some (L.set (place L key:Int).toNat (⟨x2.Key,v⟩:aB))))=some (L.set (place L key) ⟨key,v⟩):=by
 rw[ug (by have:=h.2;omega),Df (kR hd),au,Gi hd,bC]
theorem Tt(o:bG)(L:List aB)(h:NI L):kg o L=some (E5 o L):=by
 have hl:=h.2
 have pl:=Db L o.Key
 unfold kg mP E5
 rw[Dg,au,Ko L o.Key h.1 (by omega)]
 cases hr:kJ o
 ·simp
 have hk:=Bf hr
 simp only[Bool.not_true,cond_false,au,Bool.true_eq_false,if_false,NA]
 by_cases k2:o.Kind=2
 ·rw[dB k2,cond_true,if_pos k2]
  unfold nM jy
  cases hd:rX L o.Key
  ·rw[cond_false,if_neg (by simp),NA]
   by_cases l8:L.length=8
   ·rw[dB (by omega),if_pos l8];rfl
   ·rw[bV (by omega),if_neg l8,cond_false,ug (by omega),Dr (by simp[M9,fu];omega)];rfl
  ·rw[cond_true,abK h hd,if_pos rfl];rfl
 rw[bV k2,cond_false,if_neg k2]
 cases hd:rX L o.Key
 ·simp
 have hp:=Df (kR hd)
 simp only[Bool.not_true,cond_false,Bool.true_eq_false,if_false]
 by_cases k1:o.Kind=1
 ·rw[dB k1,cond_true,if_pos k1,hp];rfl
 rw[bV k1,cond_false,if_neg k1]
 by_cases k4:o.Kind=4
 ·rw[dB k4,cond_true,if_pos k4]
  unfold nL jy
  rw[abK h hd,hp,au]
  by_cases q:(NH L o.Key).Value=o.Old
  ·rw[if_pos q];simp[q]
  ·have:((NH L o.Key).Value==o.Old)=false:=by simpa using q
   rw[if_neg q,this];rfl
 ·have c:=kR hd
  rw[bV k4,cond_false,if_neg k4,ug (by omega),f_ (by omega) (by omega),Dr (by simp[SH];omega)]
theorem abL(L:List aB)(k:Nat)(p:aB)(h:k<L.length):(L.take k++[p])++L.drop (k+1)=L.set k p:=by
 rw[List.set_eq_take_append_cons_drop,if_pos h,bE]
 rfl
theorem QV(o:bG)(L:List aB)(h:NI L):qG o L=some ((E5 o L).1,(E5 o L).2):=by
 have hl:=h.2
 have pl:=Db L o.Key
 unfold qG pJ pK E5
 rw[Bd,au,WI L o.Key (by omega)]
 cases hr:kJ o
 ·simp
 have hk:=Bf hr
 simp only[Bool.not_true,cond_false,au,Bool.true_eq_false,if_false,NA]
 rw[Qp L _ pl]
 by_cases k1:o.Kind=1
 ·have k2:¬o.Kind=2:=by omega
  rw[dB k1,cond_true,if_neg k2,if_pos k1]
  cases hd:rX L o.Key
  ·simp
  ·rw[Df (kR hd)];simp
 rw[bV k1,cond_false]
 by_cases k2:o.Kind=2
 ·rw[dB k2,cond_true,if_pos k2]
  have lt:(L.take (place L o.Key)).length≤8:=by rw[aV];omega
  cases hd:rX L o.Key
  ·simp only[Bool.not_false,cond_true]
   by_cases l8:L.length=8
   ·rw[dB (by omega),if_neg (by simp),if_pos l8];rfl
   ·rw[bV (by omega),if_neg (by simp),if_neg l8,cond_false,au]
    simp only[nV,cond_false,au]
    rw[ug (by omega),ug (by rw[aJ];simp only[List.length_singleton];omega),zY L _ pl,au,ug (by simp only[aJ,List.length_singleton,aS];omega)]
    unfold vS
    rw[bC,bE]
    rfl
  ·have c:=kR hd
   simp only[Bool.not_true,cond_false,cond_true,au,nV,if_true]
   rw[ug (by omega),ug (by rw[aJ];simp only[List.length_singleton];omega),f_ (by omega) (by omega),gF,zY L _ (by omega),au,ug (by simp only[aJ,List.length_singleton,aS];omega),abL L _ _ c]
 rw[bV k2,cond_false,if_neg k2]
 by_cases k3:o.Kind=3
 ·rw[dB k3,cond_true]
  cases hd:rX L o.Key
  ·simp
  ·have c:=kR hd
   have k4:¬o.Kind=4:=by omega
   simp only[Bool.not_true,cond_false,au,Bool.true_eq_false,if_false]
   rw[if_neg k1,if_neg k4,ug (by rw[aV];omega),f_ (by omega) (by omega),gF,zY L _ (by omega),au,ug (by simp only[aJ,aV,aS];omega)]
   unfold zw
   rw[bC,bC]
 rw[bV k3,cond_false]
 have k4:o.Kind=4:=by omega
 cases hd:rX L o.Key
 ·simp
 have hp:=Df (kR hd)
 simp only[Bool.not_true,cond_false,Bool.true_eq_false,if_false]
 rw[if_neg k1,if_pos k4,hp,au,au,au,Gi hd,ug (by omega),bC]
 by_cases q:(NH L o.Key).Value=o.Old
 ·rw[if_pos q];simp[q]
 ·have:((NH L o.Key).Value==o.Old)=false:=by simpa using q
  rw[if_neg q,this];rfl
def Ig(L:List aB)(l:List aB):List aB:=l.foldl (λL x=>(E5 ⟨2,x.Key,x.Value,[]⟩ L).2) L
theorem NC(l:List aB):∀L,NI L→NI (Ig L l):=by
 induction l with
 | nil=>exact λL h=>h
 | cons x l ih=>exact λL h=>ih _ (WL h _)
theorem ok0:NI []:=⟨List.Pairwise.nil,by simp⟩
theorem Kq(l:List aB)(h:l.length<1000000000):Aq l=some ⟨Ig [] l⟩:=by
 unfold Aq
 have key:CX l (0,[])=some (Ig [] l):=by
  refine xP (λi=>((i:Int),Ig [] (l.take i))) l.length _ (λi hi=>?_) ?_ (by omega)
  ·unfold nA
   simp only
   rw[dB (by omega),cond_true,jq hi,au,Tt _ _ (NC _ _ ok0),au,f_ (by omega) (by omega),gF,dG hi]
   unfold Ig
   rw[List.foldl_append]
   rfl
  ·unfold nA
   simp only
   rw[bV (by omega),cond_false,List.take_length]
 rw[key]
 rfl
theorem Tv(l:List aB)(h:l.length<1000000000):xR l=some ⟨Ig [] l⟩:=by
 unfold xR
 have key:zy l (0,[])=some (Ig [] l):=by
  refine xP (λi=>((i:Int),Ig [] (l.take i))) l.length _ (λi hi=>?_) ?_ (by omega)
  ·unfold lC
   simp only
   rw[dB (by omega),cond_true,jq hi,au,au,QV _ _ (NC _ _ ok0),au,f_ (by omega) (by omega),gF,dG hi]
   unfold Ig
   rw[List.foldl_append]
   rfl
  ·unfold lC
   simp only
   rw[bV (by omega),cond_false,List.take_length]
 rw[key]
 rfl
theorem Ih(c:Int)(s:aX)(h:s.S_.L.length<1000000):iR c s=some (lastOf c s.S_.L):=by
 unfold iR nD lastOf
 rw[Mi c s.S_.L h (iq s c) (λ_=>rfl),au]
 cases s.S_.L.find? (λy=>y.Client==c)<;>rfl
theorem Pt(x:aA)(s:aX)(h:s.S_.L.length<1000):iT x s=some ((BA x s.S_.L).1,⟨s.T,⟨(BA x s.S_.L).2⟩,s.ID,s.Epoch⟩):=by
 have e:=Ie x s.S_.L h
 have e3:iT x s=(h_ x s.S_.L).bind λr=>some (r.1,⟨s.T,⟨r.2⟩,s.ID,s.Epoch⟩):=by
  unfold iT h_
  rw[Ih _ _ (by omega),Ic _ _ (by omega),au,au]
  have j0:kP x (lastOf x.Client s.S_.L) s=gN x (lastOf x.Client s.S_.L) s.S_.L:=rfl
  have j3:nH s x (false,0,[])=iP s.S_.L x (false,0,[]):=rfl
  rw[j0,j3,Kk x _ h]
  cases gN x (lastOf x.Client s.S_.L) s.S_.L with
  | none=>rfl
  | some r =>
   cases r with
   | inl _=>rfl
   | inr _ =>
    simp only[au,nV,cond_false]
    have j4:kQ (s.S_.L.foldl (qh x) (false,[])) x s=gP (s.S_.L.foldl (qh x) (false,[])) x s.S_.L:=rfl
    rw[j4]
    cases gP (s.S_.L.foldl (qh x) (false,[])) x s.S_.L<;>rfl
 rw[e3,e]
 rfl
theorem Hf(s:aD):gD s=some (eT s.bf):=by
 unfold gD mq
 have key:gY (eu s) KK (0,[])=some (eT s.bf):=by
  refine xP (λi=>((i:Int),(s.bf.l.zQ.take i).filter (λx=>decide (0<x.Seq)))) 4 _ (λi hi=>?_) ?_ (by omega)
  ·have hl:i<s.bf.l.zQ.length:=by simpa[A4.zQ]using hi
   have h5:(s.bf.l.zQ.take (i+1)).filter (λx=>decide (0<x.Seq))=(s.bf.l.zQ.take i).filter (λx=>decide (0<x.Seq))++[s.bf.l.zQ[i]].filter (λx=>decide (0<x.Seq)):=by
    rw[dG hl,List.filter_append]
   have h6:((s.bf.l.zQ.take i).filter (λx=>decide (0<x.Seq))).length≤4:=Nat.le_trans (List.length_filter_le _ _) (by simp;omega)
   unfold eu
   simp only
   rw[dB (by omega),cond_true,show [s.bf.l.a0,s.bf.l.a1,s.bf.l.a2,s.bf.l.a3]=s.bf.l.zQ from rfl,jq hl,au,h5,f_ (by omega) (by omega),gF]
   by_cases q:s.bf.l.zQ[i].Seq>0
   ·rw[dB q,cond_true,uQ (by rw[aJ];simp only[List.length_singleton];omega),List.filter_cons_of_pos (by simpa using q)];rfl
   ·rw[bV q,cond_false,List.filter_cons_of_neg (by simpa using q)];simp
  ·unfold eu
   rfl
 rw[key]
 rfl
theorem QW(o:bG)(s:aX)(h:NI s.T.L):qI o s=some ((E5 o s.T.L).1,⟨⟨(E5 o s.T.L).2⟩,s.S_,s.ID,s.Epoch⟩):=by
 obtain⟨⟨L⟩,S,i,e⟩:=s
 simp only at h
 have f3:qP o.Key ⟨⟨L⟩,S,i,e⟩=lu o.Key L:=rfl
 have hl:=h.2
 have pl:=Db L o.Key
 unfold qI pQ pR E5
 simp only
 rw[Bd,au,f3,WI L o.Key (by omega)]
 cases hr:kJ o
 ·simp
 have hk:=Bf hr
 simp only[Bool.not_true,cond_false,au,Bool.true_eq_false,if_false,NA]
 rw[Qp L _ pl]
 by_cases k1:o.Kind=1
 ·have k2:¬o.Kind=2:=by omega
  rw[dB k1,cond_true,if_neg k2,if_pos k1]
  cases hd:rX L o.Key
  ·simp
  ·rw[Df (kR hd)];simp
 rw[bV k1,cond_false]
 by_cases k2:o.Kind=2
 ·rw[dB k2,cond_true,if_pos k2]
  have lt:(L.take (place L o.Key)).length≤8:=by rw[aV];omega
  cases hd:rX L o.Key
  ·simp only[Bool.not_false,cond_true]
   by_cases l8:L.length=8
   ·rw[dB (by omega),if_neg (by simp),if_pos l8];rfl
   ·rw[bV (by omega),if_neg (by simp),if_neg l8,cond_false,au]
    simp only[nV,cond_false,au]
    rw[ug (by omega),ug (by rw[aJ];simp only[List.length_singleton];omega),zY L _ pl,au,ug (by simp only[aJ,List.length_singleton,aS];omega)]
    unfold vS
    rw[bC,bE]
    rfl
  ·have c:=kR hd
   simp only[Bool.not_true,cond_false,cond_true,au,nV,if_true]
   rw[ug (by omega),ug (by rw[aJ];simp only[List.length_singleton];omega),f_ (by omega) (by omega),gF,zY L _ (by omega),au,ug (by simp only[aJ,List.length_singleton,aS];omega),abL L _ _ c]
 rw[bV k2,cond_false,if_neg k2]
 by_cases k3:o.Kind=3
 ·rw[dB k3,cond_true]
  cases hd:rX L o.Key
  ·simp
  ·have c:=kR hd
   have k4:¬o.Kind=4:=by omega
   simp only[Bool.not_true,cond_false,au,Bool.true_eq_false,if_false]
   rw[if_neg k1,if_neg k4,ug (by rw[aV];omega),f_ (by omega) (by omega),gF,zY L _ (by omega),au,ug (by simp only[aJ,aV,aS];omega)]
   unfold zw
   rw[bC,bC]
 rw[bV k3,cond_false]
 have k4:o.Kind=4:=by omega
 cases hd:rX L o.Key
 ·simp
 have hp:=Df (kR hd)
 simp only[Bool.not_true,cond_false,Bool.true_eq_false,if_false]
 rw[if_neg k1,if_pos k4,hp,au,au,au,Gi hd,ug (by omega),bC]
 by_cases q:(NH L o.Key).Value=o.Old
 ·rw[if_pos q];simp[q]
 ·have:((NH L o.Key).Value==o.Old)=false:=by simpa using q
  rw[if_neg q,this];rfl
def Dh(s:aD):aX:=⟨⟨s.Table.l⟩,⟨eT s.bf⟩,s.ID,s.Epoch⟩
def OkS(s:aD):Prop:=NI s.Table.l∧GoodS s.bf
def jm(r:dH):Prop:=0≤r.Client∧r.Client<4∧1≤r.Seq∧r.Seq≤4611686018427387903∧kJ r.Op=true
instance (r:dH):Decidable (jm r):=by unfold jm;infer_instance
theorem QX(r:dH):vC r=some (decide (jm r)):=by
 unfold vC
 by_cases h1:r.Client≥0
 case neg=>rw[bV h1,bV (show ¬jm r by unfold jm;omega)];rfl
 rw[dB h1,cond_true]
 by_cases h2:r.Client<4
 case neg=>rw[bV h2,bV (show ¬jm r by unfold jm;omega)];rfl
 rw[dB h2,cond_true]
 by_cases h3:r.Seq≥1
 case neg=>rw[bV h3,bV (show ¬jm r by unfold jm;omega)];rfl
 rw[dB h3,cond_true]
 by_cases h4:r.Seq≤4611686018427387903
 case neg=>rw[bV h4,bV (show ¬jm r by unfold jm;omega)];rfl
 rw[dB h4,cond_true,Bd,au]
 cases h5:kJ r.Op
 ·rw[bV (show ¬jm r by unfold jm;rw[h5];simp)]
 ·rw[dB (show jm r by unfold jm;exact⟨by omega,by omega,by omega,by omega,h5⟩)]
def ND(y:aA):Bool:=(decide (y.Answer.Why=0)||decide (y.Answer.Why=4)||decide (y.Answer.Why=5)||decide (y.Answer.Why=6))&&decide (y.Answer.Value.length≤16)&&decide (y.Seq≤4611686018427387903)
def WM(p:aB):Bool:=decide (p.Key.length<1)||decide (8<p.Key.length)||decide (16<p.Value.length)
def OkP(L:List aB):Prop:=∀p∈L,WM p=false
theorem Kr{o:bG}(h:kJ o=true):WM ⟨o.Key,o.Value⟩=false:=by
 unfold kJ at h
 simp only[Bool.and_eq_true,decide_eq_true_eq]at h
 unfold WM
 simp only
 rw[bV (show ¬o.Key.length<1 by omega),bV (show ¬ 8<o.Key.length by omega),bV (show ¬ 16<o.Value.length by omega)]
 rfl
theorem QY{L:List aB}(h:OkP L)(o:bG):OkP (E5 o L).2:=by
 have st:kJ o=true→OkP (L.set (place L o.Key) ⟨o.Key,o.Value⟩):=λhr p hp=>by
  rcases List.mem_or_eq_of_mem_set hp with q | rfl
  ·exact h p q
  ·exact Kr hr
 unfold E5
 split
 ·exact h
 next hr =>
 have hr:kJ o=true:=by simpa using hr
 split
 ·split
  ·exact st hr
  ·split
   ·exact h
   ·intro p hp
    simp only[vS]at hp
    rcases List.mem_append.1 hp with q | q
    ·exact h p (List.mem_of_mem_take q)
    ·rcases List.mem_cons.1 q with rfl | q
     ·exact Kr hr
     ·exact h p (List.mem_of_mem_drop q)
 split
 ·exact h
 split
 ·exact h
 split
 ·split
  ·exact st hr
  ·exact h
 ·intro p hp
  simp only[zw]at hp
  rcases List.mem_append.1 hp with q | q
  ·exact h p (List.mem_of_mem_take q)
  ·exact h p (List.mem_of_mem_drop q)
theorem aaL(l:List aB):∀L,OkP L→OkP (Ig L l):=by
 induction l with
 | nil=>exact λL h=>h
 | cons x l ih=>exact λL h=>ih _ (QY h _)
theorem KU(s:aX)(h1:s.T.L.length≤100)(h2:s.S_.L.length≤100):mo s=some (s.ID,s.Epoch,s.T.L,s.S_.L):=by
 unfold mo
 rw[ug h1,uQ (by omega)]
theorem RY {α β:Type} (a:List α) (q:α→Bool) (hl:a.length<1000000) (f:Int→Option (Int⊕(β⊕Unit))) (u:Nat→β)
  (hin:∀(i:Nat) (h:i<a.length),f (i:Int)=cond (q a[i]) (some (.inr (.inl (u i)))) (some (.inl ((i+1:Nat):Int)))) (hout:f (a.length:Int)=some (.inr (.inr ()))) :
  ∃e,gY f KK 0=some e∧((a.any q=true∧∃i,e=.inl (u i))∨(a.any q=false∧e=.inr ())):=by
 refine rF (λs=>(a.length-s.toNat)) (λs=>∃i:Nat,s=(i:Int)∧i≤a.length∧a.any q=(a.drop i).any q) _ ?_ KK _ ⟨0,rfl,by omega,rfl⟩ (by have:=EC;omega)
 rintro s ⟨i,rfl,h1,h2⟩
 by_cases c:i<a.length
 ·rw[hin i c]
  rw[List.drop_eq_getElem_cons c,List.any_cons]at h2
  cases e:q a[i]
  ·left
   rw[e,Bool.false_or]at h2
   exact⟨_,rfl,⟨i+1,rfl,by omega,h2⟩,by omega⟩
  ·right
   rw[e,Bool.true_or]at h2
   exact⟨_,rfl,.inl ⟨h2,i,rfl⟩⟩
 ·right
  obtain rfl:i=a.length:=by omega
  rw[hout]
  rw[List.drop_of_length_le (Nat.le_refl _),List.any_nil]at h2
  exact⟨_,rfl,.inr ⟨h2,rfl⟩⟩
theorem RZ{α:Type}(eqv:α→α→Bool)(he:∀x y,eqv x y=true↔x=y):∀a b:List α,a.length=b.length→((a.zip b).any (λp=>!(eqv p.1 p.2))=false↔a=b)
 | [],[],_=>by simp
 | [],_::_,h=>by simp at h
 | _::_,[],h=>by simp at h
 | x::a,y::b,h=>by
  have ih:=RZ eqv he a b (by simpa using h)
  rw[List.zip_cons_cons,List.any_cons,Bool.or_eq_false_iff,ih]
  simp only[Bool.not_eq_false',he]
  constructor
  ·rintro⟨rfl,rfl⟩;rfl
  ·intro e;injection e with e1 e2;exact⟨e1,e2⟩
theorem NG {α:Type} [DecidableEq α] (a b:List α) (eqv:α→α→Bool) (he:∀x y,eqv x y=true↔x=y) (hl:a.length<1000000) (hab:a.length=b.length) (f:Int→Option (Int⊕(Unit⊕Unit)))
  (hf:∀s3,f s3=cond (decide (s3<(a.length:Int))) ((dS a s3).bind λ(x4:α)=>(dS b s3).bind λ(x5:α)=>cond (!(eqv x4 x5)) (some (.inr (.inl ()))) (some (.inl (IntKind.i64.wrap (s3+1))))) (some (.inr (.inr ())))) :
  ∃e,gY f KK 0=some e∧nV e=decide (a≠b):=by
 have hz:(a.zip b).length=a.length:=by rw[List.length_zip];omega
 obtain⟨e,e1,e2⟩:=RY (a.zip b) (λp=>!(eqv p.1 p.2)) (by omega) f (λ_=>()) (λi h=>by
  have ha:i<a.length:=by omega
  have hb:i<b.length:=by omega
  rw[hf,dB (by omega),cond_true,jq ha,au,jq hb,au,f_ (by omega) (by omega),gF,List.getElem_zip]) (by
  rw[hf,hz,bV (by omega),cond_false])
 refine⟨e,e1, ?_⟩
 have z:=RZ eqv he a b hab
 rcases e2 with⟨q,i,rfl⟩ |⟨q,rfl⟩
 ·have:a≠b:=λh=>by rw[z.2 h]at q;cases q
  rw[dB this];rfl
 ·rw[bV (by rw[z.1 q];simp)];rfl
theorem Kt(x y:aB):(x.Key==y.Key&&(x.Value==y.Value&&true))=true↔x=y:=by
 obtain⟨a,b⟩:=x;obtain⟨c,d⟩:=y
 simp
theorem Ku(x y:aA):(x.Client==y.Client&&(x.Seq==y.Seq&&(x.Answer.Why==y.Answer.Why&&(x.Answer.Value==y.Answer.Value&&true))))=true↔x=y:=by
 obtain⟨a,b,c,d⟩:=x;obtain⟨e,f,g,h⟩:=y
 simp
instance:DecidableEq aB:=λa b=>decidable_of_iff _ (Kt a b)
instance:DecidableEq aA:=λa b=>decidable_of_iff _ (Ku a b)
theorem aaM(a b:List aB)(h:a.length<1000000):eY a b=some (decide (a=b)):=by
 unfold eY
 by_cases c:a.length=b.length
 ·rw[JM (by omega),cond_false]
  obtain⟨e,e1,e2⟩:=NG a b _ Kt h c (dV a b) (λ_=>rfl)
  unfold iD
  rw[e1,au,e2]
  by_cases q:a=b<;>simp[q]
 ·rw[LV (by omega),bV (λe=>c (by rw[e]))];rfl
theorem equalS(a b:List aA)(h:a.length<1000000):eZ a b=some (decide (a=b)):=by
 unfold eZ
 by_cases c:a.length=b.length
 ·rw[JM (by omega),cond_false]
  obtain⟨e,e1,e2⟩:=NG a b _ Ku h c (dW a b) (λ_=>rfl)
  unfold iE
  rw[e1,au,e2]
  by_cases q:a=b<;>simp[q]
 ·rw[LV (by omega),bV (λe=>c (by rw[e]))];rfl
theorem aad(a b:aT)(h1:a.Pairs.length<1000000)(h2:a.fM.length<1000000):pW a b=some (decide (a.jJ=b.jJ∧a.Epoch=b.Epoch∧a.Pairs=b.Pairs∧a.fM=b.fM)):=by
 unfold pW qU
 by_cases c1:a.jJ=b.jJ
 case neg=>rw[LV c1,bV (λe=>c1 e.1)];rfl
 rw[JM c1,cond_false]
 by_cases c2:a.Epoch=b.Epoch
 case neg=>rw[LV c2,bV (λe=>c2 e.2.1)];rfl
 rw[JM c2,cond_false]
 by_cases c3:a.Pairs.length=b.Pairs.length
 case neg=>rw[LV (by omega),bV (λe=>c3 (by rw[e.2.2.1]))];rfl
 rw[JM (by omega),cond_false]
 by_cases c4:a.fM.length=b.fM.length
 case neg=>rw[LV (by omega),bV (λe=>c4 (by rw[e.2.2.2]))];rfl
 rw[JM (by omega),cond_false,au]
 simp only[nV,cond_false]
 obtain⟨e,e1,e2⟩:=NG a.Pairs b.Pairs _ Kt h1 c3 (lN a b) (λ_=>rfl)
 obtain⟨e',e1',e2'⟩:=NG a.fM b.fM _ Ku h2 c4 (lQ a b) (λ_=>rfl)
 unfold vY vZ
 rw[e1,au]
 show cond (nV e) _ _=_
 rw[e2,e1',au]
 show cond _ _ (cond (nV e') _ _)=_
 rw[e2']
 by_cases p:a.Pairs=b.Pairs<;>by_cases q:a.fM=b.fM<;>simp[p,q,c1,c2]
theorem Kv(y:aA):oL y=some (ND y):=by
 unfold oL nR ND
 simp only[NA]
 by_cases a:y.Answer.Why=0<;>by_cases b:y.Answer.Why=4<;>by_cases c:y.Answer.Why=5<;>by_cases d:y.Answer.Why=6<;>by_cases e:y.Answer.Value.length≤16 <;>
  simp[a,b,c,d,e,show((y.Answer.Value.length:Int)≤16)↔y.Answer.Value.length≤16 by omega]
theorem Kw(L:List aA)(h:L.length<1000000):dP L=some (L.any λy=>!ND y):=by
 obtain⟨e,e1,e2⟩:=RY L (λy=>!ND y) h (cO L) (λi=>(i:Int)) (λi hi=>by
  unfold cO u7
  rw[dB (by omega),cond_true,jq hi,au,Kv,au,au,f_ (by omega) (by omega),gF]) (by
  unfold cO
  rw[bV (by omega),cond_false])
 unfold dP fF gJ
 rw[e1,au]
 rcases e2 with⟨q,i,rfl⟩ |⟨q,rfl⟩
 ·rw[q]
  simp only[nV,FR,cond_true,au]
  rw[dB (by omega)]
 ·rw[q];rfl
def BP(l:List aA):aQ:=l.foldl oW oU
theorem WO(l:List aA):GoodS (BP l):=Ay l _ ⟨.inl rfl,.inl rfl,.inl rfl,.inl rfl⟩
theorem Dw(l:List aA)(h:l.length<1000000000):jf l=some (BP l):=by
 have g0:GoodS oU:=⟨.inl rfl,.inl rfl,.inl rfl,.inl rfl⟩
 unfold jf
 have key:pU l (0,oU)=some (l.foldl oW oU):=by
  refine xP (λi=>((i:Int),(l.take i).foldl oW oU)) l.length _ (λi hi=>?_) ?_ (by omega)
  ·obtain⟨⟨b,e1,_⟩,_⟩:=uR l[i] _ (Ay (l.take i) _ g0)
   unfold gB
   simp only
   rw[dB (by omega),cond_true,jq hi,au,e1,au,f_ (by omega) (by omega),gF,dG hi,List.foldl_append]
   rfl
  ·unfold gB
   simp only
   rw[bV (by omega),cond_false,List.take_length]
 have e:(0,oU)=((0:Int),(⟨(⟨(⟨0,0,(⟨0,([]:List UInt8)⟩:aH)⟩:aA),(⟨0,0,(⟨0,([]:List UInt8)⟩:aH)⟩:aA),(⟨0,0,(⟨0,([]:List UInt8)⟩:aH)⟩:aA),(⟨0,0,(⟨0,([]:List UInt8)⟩:aH)⟩:aA)⟩:A4 aA)⟩:aQ)):=rfl
 rw[←e,key]
 rfl
def uS(x:aT):Prop:=0≤x.jJ∧x.jJ<6∧1≤x.Epoch∧x.Epoch≤1099511627776∧Ig [] x.Pairs=x.Pairs∧eT (BP x.fM)=x.fM∧(x.fM.any λy=>!ND y)=false
instance (x:aT):Decidable (uS x):=by unfold uS;infer_instance
theorem Pv(x:aT)(h1:x.Pairs.length<1000000)(h2:x.fM.length<1000000):rW x=some (decide (uS x)):=by
 unfold rW t_
 by_cases a1:x.jJ<0
 ·rw[dB a1,bV (show ¬uS x by rintro⟨p,_⟩;omega)];rfl
 rw[bV a1,cond_false]
 by_cases a2:x.jJ≥6
 ·rw[dB a2,bV (show ¬uS x by rintro⟨_,p,_⟩;omega)];rfl
 rw[bV a2,cond_false]
 by_cases a3:x.Epoch<1
 ·rw[dB a3,bV (show ¬uS x by rintro⟨_,_,p,_⟩;omega)];rfl
 rw[bV a3,cond_false]
 by_cases a4:x.Epoch>1099511627776
 ·rw[dB a4,bV (show ¬uS x by rintro⟨_,_,_,p,_⟩;omega)];rfl
 rw[bV a4,cond_false,au]
 simp only[nV,cond_false]
 have hT:(Ig [] x.Pairs).length≤8:=(NC _ _ ok0).2
 have hS:=Gh (BP x.fM)
 have e:tN x=some ⟨⟨Ig [] x.Pairs⟩,BP x.fM,x.jJ,x.Epoch⟩:=by
  unfold tN
  rw[Kq _ (by omega),au,Dw _ (by omega)]
  rfl
 have j1:oM ⟨⟨Ig [] x.Pairs⟩,BP x.fM,x.jJ,x.Epoch⟩ x=some (decide (Ig [] x.Pairs=x.Pairs∧eT (BP x.fM)=x.fM)):=by
  unfold oM jA
  rw[ug (by simp only;omega),au,aaM _ _ (by simp only;omega),au,Hf,au,equalS _ _ (by simp only;omega),au]
  by_cases a:Ig [] x.Pairs=x.Pairs<;>by_cases b:eT (BP x.fM)=x.fM<;>simp[a,b]
 rw[e,au,j1,au,Kw _ h2,au]
 by_cases b1:Ig [] x.Pairs=x.Pairs
 case neg=>rw[bV (show ¬(Ig [] x.Pairs=x.Pairs∧_)by rintro⟨p,_⟩;exact b1 p),bV (show ¬uS x by rintro⟨_,_,_,_,p,_⟩;exact b1 p)];rfl
 by_cases b2:eT (BP x.fM)=x.fM
 case neg=>rw[bV (show ¬(Ig [] x.Pairs=x.Pairs∧_)by rintro⟨_,p⟩;exact b2 p),bV (show ¬uS x by rintro⟨_,_,_,_,_,p,_⟩;exact b2 p)];rfl
 rw[dB (show(Ig [] x.Pairs=x.Pairs∧_)from⟨b1,b2⟩),cond_true]
 cases b3:(x.fM.any λy=>!ND y)
 ·rw[dB (show uS x from⟨by omega,by omega,by omega,by omega,b1,b2,b3⟩)];rfl
 ·rw[bV (show ¬uS x by rintro⟨_,_,_,_,_,_,p⟩;rw[b3]at p;cases p)];rfl
theorem acH:∀k:Fin 16,dR (k.val:Int) 16=some (k.val:Int):=by decide +kernel
theorem pk6:∀k:Fin 6,dR (k.val:Int) 6=some (k.val:Int):=by decide +kernel
theorem pk4:∀k:Fin 4,dR (k.val:Int) 4=some (k.val:Int):=by decide +kernel
theorem aaN:∀a:Fin 4,∀k:Fin 16,∀v:Fin 6,∀o:Fin 6,(CF (a.val:Int) (k.val:Int) (v.val:Int) (o.val:Int)).map kJ=some true:=by decide +kernel
theorem WQ(a b c d:Int):∃o,CF a b c d=some o∧kJ o=true:=by
 obtain⟨k,hk,hk2⟩:=ni b 16 (by omega) (by omega)
 obtain⟨v,hv,hv2⟩:=ni c 6 (by omega) (by omega)
 obtain⟨w,hw,hw2⟩:=ni d 6 (by omega) (by omega)
 obtain⟨n,hn,hn2⟩:=ni a 4 (by omega) (by omega)
 have hk:dR b 16=some (k:Int):=hk
 have hv:dR c 6=some (v:Int):=hv
 have hw:dR d 6=some (w:Int):=hw
 have hn:dR a 4=some (n:Int):=hn
 have e1:Bb b=Bb (k:Int):=by
  unfold Bb
  rw[hk,acH ⟨k,hk2⟩]
 have e2:mZ c=mZ (v:Int):=by
  unfold mZ
  rw[hv,pk6 ⟨v,hv2⟩]
 have e3:mZ d=mZ (w:Int):=by
  unfold mZ
  rw[hw,pk6 ⟨w,hw2⟩]
 have e4:dR a 4=dR (n:Int) 4:=by rw[hn,pk4 ⟨n,hn2⟩]
 have e:CF a b c d=CF (n:Int) (k:Int) (v:Int) (w:Int):=by
  unfold CF CB Cz
  simp only[e1,e2,e3,e4]
 have all:=aaN ⟨n,hn2⟩ ⟨k,hk2⟩ ⟨v,hv2⟩ ⟨w,hw2⟩
 rw[e]
 simp only at all
 cases h:CF (n:Int) (k:Int) (v:Int) (w:Int)with
 | none=>rw[h]at all;cases all
 | some o=>rw[h]at all;exact⟨o,rfl,ak all⟩
theorem Tx(x:bK)(h:x.Ir=0):∃r,CG x=some r∧jm r:=by
 obtain⟨c,hc,hc2⟩:=ni x.Client 4 (by omega) (by omega)
 obtain⟨s,hs,hs2⟩:=ni x.Seq 9 (by omega) (by omega)
 obtain⟨o,ho,ho2⟩:=WQ x.Kind x.Key x.Value x.Old
 have hc:dR x.Client 4=some (c:Int):=hc
 have hs:dR x.Seq 9=some (s:Int):=hs
 have hb:dR 0 16=some 0:=by decide +kernel
 unfold CG
 rw[hc,hs,ho,h,hb]
 refine⟨⟨(c:Int),IntKind.i64.wrap (1+(s:Int)),o⟩,rfl, ?_⟩
 unfold jm
 simp only
 rw[f_ (by omega) (by omega)]
 exact⟨by omega,by omega,by omega,by omega,ho2⟩
theorem WR{L:List aB}(hp:OkP L)(o:bG)(hr:kJ o=true):((E5 o L).1.Why=0∨(E5 o L).1.Why=4∨(E5 o L).1.Why=5∨(E5 o L).1.Why=6)∧(E5 o L).1.Value.length≤16:=by
 have pv:rX L o.Key=true→(NH L o.Key).Value.length≤16:=λhd=>by
  have h1:=kR hd
  have h2:NH L o.Key=L[place L o.Key]:=by
   unfold NH
   rw[bn h1]
   rfl
  have:=hp _ (List.getElem_mem h1)
  rw[h2]
  unfold WM at this
  simp only[Bool.or_eq_false_iff,decide_eq_false_iff_not]at this
  omega
 unfold E5
 rw[if_neg (by rw[hr];simp)]
 cases hd:rX L o.Key
 ·simp only[Bool.false_eq_true,if_false,if_true]
  split
  ·split<;>simp
  ·simp
 ·have:=pv hd
  simp only[if_true,Bool.true_eq_false,if_false]
  split
  ·simp
  ·split
   ·simp;omega
   ·split
    ·split
     ·simp
     ·simp;omega
    ·simp
theorem WS(S:aQ)(x:aA):oW S x=S∨oW S x=⟨S.l.set x.Client x⟩:=by
 unfold oW bW dh
 cases decide (x.Client<0)
 case true=>exact .inl rfl
 cases decide (x.Client≥4)
 case true=>exact .inl rfl
 cases decide (x.Seq<1)
 case true=>exact .inl rfl
 simp only[cond_false]
 cases dS S.l.zQ x.Client with
 | none=>exact .inl rfl
 | some y =>
  simp only[au]
  cases decide (x.Seq≤y.Seq)
  ·exact .inr rfl
  ·exact .inl rfl
theorem Pw{S:aQ}{x y:aA}(h:y∈eT (oW S x)):y∈eT S∨y=x:=by
 rcases WS S x with e | e<;>rw[e]at h
 ·exact .inl h
 ·unfold eT at h ⊢
  rw[List.mem_filter]at h ⊢
  obtain⟨h1,h2⟩:=h
  have:y∈S.l.zQ∨y=x:=by
   unfold A4.set at h1
   split at h1<;>simp only[A4.zQ,List.mem_cons,List.not_mem_nil,or_false]at h1 ⊢<;>(rcases h1 with rfl | rfl | rfl | rfl<;>simp)
  exact this.imp (λk=>⟨k,h2⟩) id
def WT(s:aD):Prop:=OkS s∧OkP s.Table.l∧∀y∈eT s.bf,ND y=true
theorem Zt(r:dH)(s:aD)(h:WT s):∃a b s',sW r (Dh s)=some (a,b,Dh s')∧WT s'∧s'.ID=s.ID∧s'.Epoch=s.Epoch:=by
 obtain⟨T,S,i,e⟩:=s
 have h0:=h
 obtain⟨⟨hT,hS⟩,hP,hA⟩:=h
 simp only at hT hS hP hA
 unfold sW
 rw[QX,au]
 by_cases hr:jm r
 case neg =>
  rw[bV hr]
  exact⟨⟨1,[]⟩,false,⟨T,S,i,e⟩,rfl,h0,rfl,rfl⟩
 rw[dB hr]
 simp only[nV,cond_false,Bool.not_true]
 have hl:=Gh S
 rw[Ih _ _ (by simp only[Dh];omega),au]
 have q:(lastOf r.Client (Dh ⟨T,S,i,e⟩).S_.L)=(lastOf r.Client (eT S)):=rfl
 rw[q]
 generalize lastOf r.Client (eT S)=la
 cases h1:(r.Seq==la.1.Seq)
 case true=>exact⟨la.1.Answer,false,⟨T,S,i,e⟩,by rfl,h0,rfl,rfl⟩
 simp only[cond_false]
 cases h2:decide (r.Seq<la.1.Seq)
 case true=>exact⟨⟨9,[]⟩,false,⟨T,S,i,e⟩,by rfl,h0,rfl,rfl⟩
 simp only[cond_false]
 rw[QW _ _ hT,au]
 obtain⟨⟨b,e1,e2⟩,e3⟩:=uR ⟨r.Client,r.Seq,(E5 r.Op T.l).1⟩ S hS
 simp only[Dh]
 rw[Pt _ _ (by simp only;omega)]
 simp only[e2,au]
 have ha:=WR hP r.Op hr.2.2.2.2
 refine⟨_,_,⟨⟨(E5 r.Op T.l).2⟩,oW S ⟨r.Client,r.Seq,(E5 r.Op T.l).1⟩,i,e⟩,rfl,⟨⟨WL hT _,e3⟩,QY hP _,λy hy=>?_⟩,rfl,rfl⟩
 rcases Pw hy with k | rfl
 ·exact hA y k
 ·have hs:=hr.2.2.2.1
  unfold ND
  simp only
  rw[dB ha.2,dB hs]
  rcases ha.1 with k | k | k | k<;>rw[k]<;>rfl
theorem WU:∀(B A:List aB),NI (A++B)→OkP B→Ig A B=A++B
 | [],A,_,_=>by simp[Ig]
 | x::B,A,h,hp=>by
  have hx:=hp x (by simp)
  unfold WM at hx
  simp only[Bool.or_eq_false_iff,decide_eq_false_iff_not]at hx
  have hr:kJ ⟨2,x.Key,x.Value,[]⟩=true:=by
   unfold kJ
   simp
   omega
  have hlen:A.length<8:=by have:=h.2;simp at this;omega
  have hlt:∀i (hi:i<A.length),Op.bytesLess A[i].Key x.Key=true:=λi hi=>by
   have:=Dv h.1 (i:=i) (j:=A.length) (by simp) hi
   rw[List.getElem_append_left hi,List.getElem_append_right (Nat.le_refl _)]at this
   simpa using this
  have hpl:A.length=place A x.Key:=Dc x.Key A A.length (Nat.le_refl _) (λi hi _=>hlt i hi) (λhh=>by omega)
  have hd:rX A x.Key=false:=Nz A x.Key (by omega)
  have e:(E5 ⟨2,x.Key,x.Value,[]⟩ A).2=A++[x]:=by
   unfold E5
   rw[if_neg (by rw[hr];simp)]
   simp only[if_true]
   rw[if_neg (by rw[hd];simp),if_neg (by omega)]
   simp only
   unfold vS
   rw[←hpl,bC,List.take_length,List.drop_length]
  have st:Ig A (x::B)=Ig (A++[x]) B:=by
   show List.foldl _ _ _=_
   rw[List.foldl_cons,e]
   rfl
  rw[st,WU B (A++[x]) (by rw[bE];exact h) (λp hp'=>hp p (by simp[hp']))]
  simp
def nz(x:aA):aA:=if 0<x.Seq then x else iJ
theorem Dx(T:aQ)(a:aA)(k:Int)(h0:0≤k)(h4:k<4)(g:gk k a)(hn:dS T.l.zQ k=some iJ):(if decide (0<a.Seq)=true then oW T a else T)=if 0<a.Seq then ⟨T.l.set k a⟩else T:=by
 by_cases c:0<a.Seq
 ·rw[dB c,if_pos rfl,if_pos c]
  have hk:a.Client=k:=by
   rcases g with g |⟨_,g⟩
   ·omega
   ·exact g
  unfold oW bW dh
  rw[hk,bV (show ¬k<0 by omega),bV (show ¬k≥4 by omega),bV (show ¬a.Seq<1 by omega),hn]
  simp only[cond_false,au]
  rw[bV (show ¬a.Seq≤iJ.Seq by show ¬a.Seq≤0;omega)]
  rfl
 ·rw[bV c,if_neg (by simp),if_neg c]
theorem aaO(s:aQ)(hs:GoodS s):eT (BP (eT s))=eT s:=by
 obtain⟨⟨a0,a1,a2,a3⟩⟩:=s
 obtain⟨g0,g1,g2,g3⟩:=hs
 simp only at g0 g1 g2 g3
 have e:BP (eT ⟨⟨a0,a1,a2,a3⟩⟩)=⟨⟨nz a0,nz a1,nz a2,nz a3⟩⟩:=by
  unfold BP eT
  rw[List.foldl_filter]
  simp only[A4.zQ,List.foldl_cons,List.foldl_nil]
  rw[Dx oU a0 0 (by omega) (by omega) g0 rfl]
  have e0:(if 0<a0.Seq then (⟨oU.l.set 0 a0⟩:aQ)else oU)=⟨⟨nz a0,iJ,iJ,iJ⟩⟩:=by unfold nz;split<;>rfl
  rw[e0,Dx _ a1 1 (by omega) (by omega) g1 rfl]
  have e1:(if 0<a1.Seq then (⟨(⟨nz a0,iJ,iJ,iJ⟩:A4 aA).set 1 a1⟩:aQ)else ⟨⟨nz a0,iJ,iJ,iJ⟩⟩)=⟨⟨nz a0,nz a1,iJ,iJ⟩⟩:=by
   by_cases c:0<a1.Seq
   ·rw[if_pos c,show nz a1=a1 from if_pos c];rfl
   ·rw[if_neg c,show nz a1=iJ from if_neg c]
  rw[e1,Dx _ a2 2 (by omega) (by omega) g2 rfl]
  have e2:(if 0<a2.Seq then (⟨(⟨nz a0,nz a1,iJ,iJ⟩:A4 aA).set 2 a2⟩:aQ)else ⟨⟨nz a0,nz a1,iJ,iJ⟩⟩)=⟨⟨nz a0,nz a1,nz a2,iJ⟩⟩:=by
   by_cases c:0<a2.Seq
   ·rw[if_pos c,show nz a2=a2 from if_pos c];rfl
   ·rw[if_neg c,show nz a2=iJ from if_neg c]
  rw[e2,Dx _ a3 3 (by omega) (by omega) g3 rfl]
  by_cases c:0<a3.Seq
  ·rw[if_pos c,show nz a3=a3 from if_pos c];rfl
  ·rw[if_neg c,show nz a3=iJ from if_neg c]
 rw[e]
 unfold eT nz
 simp only[A4.zQ]
 have f:∀x:aA,∀l:List aA,((if 0<x.Seq then x else iJ)::l).filter (λx=>decide (0<x.Seq))=(x::(l)).filter (λx=>decide (0<x.Seq)):=λx l=>by
  by_cases c:0<x.Seq
  ·rw[if_pos c]
  ·rw[if_neg c,List.filter_cons_of_neg (by simp[iJ]),List.filter_cons_of_neg (by simpa using c)]
 have g:∀x:aA,∀l m:List aA,l.filter (λx=>decide (0<x.Seq))=m.filter (λx=>decide (0<x.Seq))→(x::l).filter (λx=>decide (0<x.Seq))=(x::m).filter (λx=>decide (0<x.Seq)):=λx l m e=>by
  rw[List.filter_cons,List.filter_cons,e]
 rw[f]
 apply g
 rw[f]
 apply g
 rw[f]
 apply g
 rw[f]
theorem Px(s:aD)(h:WT s)(h1:0≤s.ID)(h2:s.ID<6)(h3:1≤s.Epoch)(h4:s.Epoch≤1099511627776):uS ⟨s.ID,s.Epoch,s.Table.l,eT s.bf⟩:=by
 refine⟨h1,h2,h3,h4, ?_,aaO _ h.1.2, ?_⟩
 ·have:=WU s.Table.l [] (by simpa using h.1.1) h.2.1
  simpa using this
 ·rw[List.any_eq_false]
  intro y hy
  simp only at hy
  rw[h.2.2 y hy]
  simp
theorem Py(k epoch:Int)(l:List bK):∃x,CU k epoch l 0=some x∧uS x∧x.Pairs.length≤8∧x.fM.length≤4:=by
 obtain⟨x1,h1,h1'⟩:=ni k 6 (by omega) (by omega)
 obtain⟨x2,h2,h2'⟩:=ni epoch 6 (by omega) (by omega)
 have h1:dR k 6=some (x1:Int):=h1
 have h2:dR epoch 6=some (x2:Int):=h2
 unfold CU
 rw[h1,au,h2,au,f_ (by omega) (by omega)]
 have hz:WT ⟨⟨[]⟩,oU,(x1:Int),1+(x2:Int)⟩:=⟨⟨ok0,⟨.inl rfl,.inl rfl,.inl rfl,.inl rfl⟩⟩,(λp hp=>by simp at hp),λy hy=>by simp[eT,oU,A4.zQ,iJ]at hy⟩
 have f6:sS ⟨(x1:Int),1+(x2:Int),[],[]⟩=some (Dh ⟨⟨[]⟩,oU,(x1:Int),1+(x2:Int)⟩):=by
  unfold sS
  rw[Tv _ (by simp)]
  obtain⟨S,e1,_,e3⟩:=WA [] (by simp)
  have e1':jf []=some oU:=by rw[Dw _ (by simp)];rfl
  rw[e1']at e1
  rw[←ak e1]at e3
  rw[e3]
  rfl
 rw[f6,au]
 have loop:∃e,CS l 0 (0,Dh ⟨⟨[]⟩,oU,(x1:Int),1+(x2:Int)⟩)=some e∧∃s,WT s∧s.ID=(x1:Int)∧s.Epoch=1+(x2:Int)∧e=Dh s:=by
  refine rF (λ(s:Int×aX)=>12-s.1.toNat) (λs=>∃(i:Nat) (t:aD),s=((i:Int),Dh t)∧i≤12∧WT t∧t.ID=(x1:Int)∧t.Epoch=1+(x2:Int)) _ ?_ KK _ ⟨0,_,rfl,by omega,hz,rfl,rfl⟩ (by have:=EC;simp only;omega)
  rintro s ⟨i,t,rfl,g1,g2,g3,g4⟩
  simp only[qJ,yZ]
  by_cases c:i<l.length
  case neg =>
   right
   rw[bV (by omega),cond_false]
   exact⟨_,rfl,t,g2,g3,g4,rfl⟩
  by_cases c2:i<12
  case neg =>
   right
   rw[dB (by omega),cond_true,bV (by omega),cond_false]
   exact⟨_,rfl,t,g2,g3,g4,rfl⟩
  left
  rw[dB (by omega),cond_true,dB (by omega),cond_true,au]
  simp only[nV,cond_true]
  obtain⟨y,hy⟩:=nu l[i].Kind 3 (by omega) (by omega)
  have hy:dR l[i].Kind 3=some y:=hy
  rw[jq c,au,hy,au]
  obtain⟨r,hr,_⟩:=Tx ⟨(IntKind.i64.wrap (1+y)),l[i].Key,l[i].Value,l[i].Old,l[i].Client,l[i].Seq,0,l[i].Text⟩ rfl
  rw[hr,au]
  obtain⟨a,b,t',t2,t1,t3,t4⟩:=Zt r t g2
  rw[t2,au,f_ (by omega) (by omega),gF]
  exact⟨_,rfl,⟨i+1,t',rfl,by omega,t1,by rw[t3,g3],by rw[t4,g4]⟩,by simp only;omega⟩
 obtain⟨e,e1,s,hs,i1,i2,rfl⟩:=loop
 have hT:(Dh s).T.L.length≤8:=hs.1.1.2
 have hS:(Dh s).S_.L.length≤4:=Gh s.bf
 have h3:dR 0 14=some 0:=by decide +kernel
 rw[e1,au,KU _ (by omega) (by omega),au,h3,au]
 exact⟨_,rfl,Px s hs (by omega) (by omega) (by omega) (by omega),hT,hS⟩
theorem QZ(c:Int)(t:gq)(s:aQ)(i e:Int)(hs:GoodS s):gT c ⟨t,s,i,e⟩=some (lastOf c (eT s)):=by
 obtain⟨⟨a0,a1,a2,a3⟩⟩:=s
 obtain⟨g0,g1,g2,g3⟩:=hs
 simp only at g0 g1 g2 g3
 have hc:c=0∨c=1∨c=2∨c=3∨(c<0∨4≤c):=by omega
 unfold gT jg
 have zero:c<0∨4≤c→lastOf c (eT ⟨⟨a0,a1,a2,a3⟩⟩)=(iJ,false):=by
  intro h
  unfold lastOf
  have e:(eT ⟨⟨a0,a1,a2,a3⟩⟩).find? (λy=>y.Client==c)=none:=by
   rw[List.find?_eq_none]
   intro y hy
   unfold eT at hy
   rw[List.mem_filter]at hy
   obtain⟨m,p⟩:=hy
   simp[A4.zQ]at m p
   rcases m with rfl | rfl | rfl | rfl
   ·rcases g0 with k |⟨_,k⟩<;>simp<;>omega
   ·rcases g1 with k |⟨_,k⟩<;>simp<;>omega
   ·rcases g2 with k |⟨_,k⟩<;>simp<;>omega
   ·rcases g3 with k |⟨_,k⟩<;>simp<;>omega
  rw[e]
 rcases hc with rfl | rfl | rfl | rfl | hc
 ·rcases g0 with k0 |⟨k0,q0⟩<;>rcases g1 with k1 |⟨k1,q1⟩<;>rcases g2 with k2 |⟨k2,q2⟩<;>rcases g3 with k3 |⟨k3,q3⟩<;>simp[lastOf,eT,A4.zQ,iJ,dS,nV, *]<;>rw[RO (by omega)]<;>rfl
 ·rcases g0 with k0 |⟨k0,q0⟩<;>rcases g1 with k1 |⟨k1,q1⟩<;>rcases g2 with k2 |⟨k2,q2⟩<;>rcases g3 with k3 |⟨k3,q3⟩<;>simp[lastOf,eT,A4.zQ,iJ,dS,nV, *]<;>rw[RO (by omega)]<;>rfl
 ·rcases g0 with k0 |⟨k0,q0⟩<;>rcases g1 with k1 |⟨k1,q1⟩<;>rcases g2 with k2 |⟨k2,q2⟩<;>rcases g3 with k3 |⟨k3,q3⟩<;>simp[lastOf,eT,A4.zQ,iJ,dS,nV, *]<;>rw[RO (by omega)]<;>rfl
 ·rcases g0 with k0 |⟨k0,q0⟩<;>rcases g1 with k1 |⟨k1,q1⟩<;>rcases g2 with k2 |⟨k2,q2⟩<;>rcases g3 with k3 |⟨k3,q3⟩<;>simp[lastOf,eT,A4.zQ,iJ,dS,nV, *]<;>rw[RO (by omega)]<;>rfl
 ·rw[zero hc]
  by_cases h:c<0
  ·rw[dB h];rfl
  ·rw[bV h,dB (show c≥4 by omega)];rfl
theorem aaP(x:aA)(s:aD):fZ x s=(bW x s.bf).bind λr=>some (r.1,⟨s.Table,r.2,s.ID,s.Epoch⟩):=by
 unfold fZ bW
 have j0:iI x s=dh x s.bf:=rfl
 rw[j0]
 cases dh x s.bf with
 | none=>rfl
 | some r =>
  cases r with
  | inl _=>rfl
  | inr _ =>
   simp only[au,nV,cond_false]
   cases dS s.bf.l.zQ x.Client<;>rfl
theorem Tz(o:bG)(s:aD)(h:NI s.Table.l):kr o s=some ((E5 o s.Table.l).1,⟨⟨(E5 o s.Table.l).2⟩,s.bf,s.ID,s.Epoch⟩):=by
 obtain⟨⟨L⟩,S,i,e⟩:=s
 simp only at h
 have hl:=h.2
 have pl:=Db L o.Key
 unfold kr mQ E5
 simp only
 rw[Dg,au,Ko L o.Key h.1 (by omega)]
 cases hr:kJ o
 ·simp
 have hk:=Bf hr
 simp only[Bool.not_true,cond_false,au,Bool.true_eq_false,if_false,NA]
 by_cases k2:o.Kind=2
 ·rw[dB k2,cond_true,if_pos k2]
  unfold nN jB
  simp only
  cases hd:rX L o.Key
  ·rw[cond_false,if_neg (by simp),NA]
   by_cases l8:L.length=8
   ·rw[dB (by omega),if_pos l8];rfl
   ·rw[bV (by omega),if_neg l8,cond_false,ug (by omega),Dr (by simp[M9,fu];omega)];rfl
  ·rw[cond_true,ug (by omega),Df (kR hd),au,Gi hd,bC,if_pos rfl];rfl
 rw[bV k2,cond_false,if_neg k2]
 cases hd:rX L o.Key
 ·simp
 have hp:=Df (kR hd)
 simp only[Bool.not_true,cond_false,Bool.true_eq_false,if_false]
 by_cases k1:o.Kind=1
 ·rw[dB k1,cond_true,if_pos k1,hp];rfl
 rw[bV k1,cond_false,if_neg k1]
 by_cases k4:o.Kind=4
 ·rw[dB k4,cond_true,if_pos k4]
  unfold nO jB
  simp only
  rw[hp,au,ug (by omega),au,Gi hd,bC]
  by_cases q:(NH L o.Key).Value=o.Old
  ·rw[if_pos q];simp[q]
  ·have:((NH L o.Key).Value==o.Old)=false:=by simpa using q
   rw[if_neg q,this];rfl
 ·have c:=kR hd
  rw[bV k4,cond_false,if_neg k4,ug (by omega),f_ (by omega) (by omega),Dr (by simp[SH];omega)]
theorem WV(r:dH)(s:aD):kF r s=some (if jm r then .inr ()else .inl ()):=by
 unfold kF
 by_cases h1:r.Client<0
 ·rw[dB h1,if_neg (by unfold jm;omega)];rfl
 rw[bV h1,cond_false]
 by_cases h2:r.Client≥4
 ·rw[dB h2,if_neg (by unfold jm;omega)];rfl
 rw[bV h2,cond_false]
 by_cases h3:r.Seq<1
 ·rw[dB h3,if_neg (by unfold jm;omega)];rfl
 rw[bV h3,cond_false]
 by_cases h4:r.Seq>4611686018427387903
 ·rw[dB h4,if_neg (by unfold jm;omega)];rfl
 rw[bV h4,cond_false,Dg,au]
 cases h5:kJ r.Op
 ·rw[if_neg (by unfold jm;rw[h5];simp)];rfl
 ·rw[if_pos (by unfold jm;exact⟨by omega,by omega,by omega,by omega,h5⟩)];rfl
theorem aaQ(r:dH)(s:aD)(h:WT s):∃a b s',iK r s=some (a,b,s')∧WT s'∧s'.ID=s.ID∧s'.Epoch=s.Epoch:=by
 obtain⟨T,S,i,e⟩:=s
 have h0:=h
 obtain⟨⟨hT,hS⟩,hP,hA⟩:=h
 simp only at hT hS hP hA
 unfold iK
 rw[WV,au]
 by_cases hr:jm r
 case neg =>
  rw[if_neg hr]
  exact⟨⟨1,[]⟩,false,⟨T,S,i,e⟩,rfl,h0,rfl,rfl⟩
 rw[if_pos hr]
 simp only[nV,cond_false]
 rw[QZ r.Client T S i e hS,au]
 generalize lastOf r.Client (eT S)=la
 cases h1:(r.Seq==la.1.Seq)
 case true=>exact⟨la.1.Answer,false,⟨T,S,i,e⟩,by rfl,h0,rfl,rfl⟩
 simp only[cond_false]
 cases h2:decide (r.Seq<la.1.Seq)
 case true=>exact⟨⟨9,[]⟩,false,⟨T,S,i,e⟩,by rfl,h0,rfl,rfl⟩
 simp only[cond_false]
 rw[Tz _ _ hT,au,aaP]
 obtain⟨⟨b,e1,e2⟩,e3⟩:=uR ⟨r.Client,r.Seq,(E5 r.Op T.l).1⟩ S hS
 rw[e1]
 have ha:=WR hP r.Op hr.2.2.2.2
 refine⟨_,_,⟨⟨(E5 r.Op T.l).2⟩,oW S ⟨r.Client,r.Seq,(E5 r.Op T.l).1⟩,i,e⟩,rfl,⟨⟨WL hT _,e3⟩,QY hP _,λy hy=>?_⟩,rfl,rfl⟩
 rcases Pw hy with k | rfl
 ·exact hA y k
 ·have hs:=hr.2.2.2.1
  unfold ND
  simp only
  rw[dB ha.2,dB hs]
  rcases ha.1 with k | k | k | k<;>rw[k]<;>rfl
theorem Zu:nS=iK:=rfl
theorem WW(s:aD)(h:s.Table.l.length≤100):gL s=some ⟨s.ID,s.Epoch,s.Table.l,eT s.bf⟩:=by
 unfold gL jA
 rw[ug h,au,Hf,au]
theorem Zv(s:aD)(h:s.Table.l.length≤100):jM s=some (s.ID,s.Epoch,s.Table.l,eT s.bf):=by
 have e:jT s=gD s:=rfl
 unfold jM lZ
 rw[ug h,au,e,Hf,au]
theorem aaR:nQ=some true:=by decide +kernel
theorem R3 {α β:Type} (n:Nat) (hn:n<1000000) (g:α→α) (f:Int×List α→Option ((Int×List α)⊕β)) (u:List α→β)
  (hf:∀s,f s=cond (decide (s.1<(n:Int))) ((dS s.2 s.1).bind λx=>some (.inl (IntKind.i64.wrap (s.1+1),s.2.set s.1.toNat (g x)))) (some (.inr (u s.2))))
  (l:List α) (hl:l.length=n):∃e,gY f KK (0,l)=some e:=by
 have:∃e,gY f KK (0,l)=some e∧True:=by
  refine rF (λs=>n-s.1.toNat) (λs=>∃(i:Nat) (m:List α),s=((i:Int),m)∧m.length=n) _ ?_ KK _ ⟨0,l,rfl,hl⟩ (by have:=EC;simp only;omega)
  rintro s ⟨i,m,rfl,hm⟩
  rw[hf]
  by_cases c:i<n
  ·left
   simp only
   rw[dB (by omega),cond_true,jq (show i<m.length by omega),au,f_ (by omega) (by omega),gF]
   exact⟨_,rfl,⟨i+1,_,rfl,by rw[bO];exact hm⟩,by simp only;omega⟩
  ·right
   simp only
   rw[bV (by omega),cond_false]
   exact⟨_,rfl,trivial⟩
 obtain⟨e,h,_⟩:=this
 exact⟨e,h⟩
theorem TA(l:List aB)(h:l.length<1000000000):xZ l=some (Ig [] l):=by
 have e:=Kq l h
 have k:Aq l=(uZ l (0,[])).bind λx=>some ⟨x⟩:=rfl
 rw[k]at e
 unfold xZ
 cases q:uZ l (0,[])with
 | none=>rw[q]at e;cases e
 | some y =>
  rw[q]at e
  have:=congrArg gq.l (ak e)
  rw[au,show y=Ig [] l from this]
theorem xq(x0 x1:Int)(x2 x3:List bK)(o0:W9 x0)(o1:W9 x1)(o2:(okL Cq) x2)(o3:(okL Cq) x3)(hb:bk1 x0+bk1 x1+(bkL rE) x2+(bkL rE) x3≤1048576):jU x0 x1 x2 x3=some true:=by
 obtain⟨x,hx,hr,hp,hs⟩:=Py x0 x1 x2
 have hr0:=hr
 obtain⟨r1,r2,r3,r4,r5,r6,r7⟩:=hr
 have lx:x3.length≤1048576:=by have:=XO (bk:=rE) (λx=>by unfold rE;omega) x3;omega
 unfold jU
 rw[hx,au]
 have e1:tN x=some ⟨⟨x.Pairs⟩,BP x.fM,x.jJ,x.Epoch⟩:=by
  unfold tN
  rw[Kq _ (by omega),au,Dw _ (by omega),r5]
  rfl
 rw[e1,au,Zv _ (by simp only;omega),au]
 simp only[r6]
 have e2:yc x=some ((BP x.fM).l.a0.Client,(BP x.fM).l.a0.Seq,(BP x.fM).l.a0.Answer.Why,(BP x.fM).l.a0.Answer.Value,(BP x.fM).l.a1.Client,(BP x.fM).l.a1.Seq,(BP x.fM).l.a1.Answer.Why,(BP x.fM).l.a1.Answer.Value,(BP x.fM).l.a2.Client,(BP x.fM).l.a2.Seq,(BP x.fM).l.a2.Answer.Why,(BP x.fM).l.a2.Answer.Value,(BP x.fM).l.a3.Client,(BP x.fM).l.a3.Seq,(BP x.fM).l.a3.Answer.Why,(BP x.fM).l.a3.Answer.Value,x.jJ,x.Epoch,x.Pairs):=by
  unfold yc
  rw[TA _ (by omega),au,Dw _ (by omega),r5]
  rfl
 rw[show(⟨x.jJ,x.Epoch,x.Pairs,x.fM⟩:aT)=x from rfl,e2,au]
 have l0:∀a b c d e,a.2.2.1=x.Pairs→∃v,kX a b c d e (0,x.Pairs)=some v:=λa b c d e ha=>R3 x.Pairs.length (by omega) (λy=>⟨y.Key,[111,116,104,101,114]⟩) _ id (λs=>by rw[←ha];rfl) _ rfl
 have l1:∀a b c d e f,a.2.2.2=x.fM→∃v,kY a b c d e f (0,x.fM)=some v:=λa b c d e f ha=>R3 x.fM.length (by omega) (λy=>⟨y.Client,99,y.Answer⟩) _ (λ_=>()) (λs=>by rw[←ha];rfl) _ rfl
 obtain⟨v0,q0⟩:=l0 (x.jJ,x.Epoch,x.Pairs,x.fM) x3 x ⟨⟨x.Pairs⟩,BP x.fM,x.jJ,x.Epoch⟩ _ rfl
 rw[q0,au]
 obtain⟨v1,q1⟩:=l1 (x.jJ,x.Epoch,x.Pairs,x.fM) x3 x ⟨⟨x.Pairs⟩,BP x.fM,x.jJ,x.Epoch⟩ v0 _ rfl
 rw[q1,au]
 have j2:∀t,gK x ⟨⟨x.Pairs⟩,BP x.fM,x.jJ,x.Epoch⟩ x3 t=some (.inr ()):=λt=>by
  unfold gK kG ng
  rw[aaR,au,Pv x (by omega) (by omega),au,dB hr0,WW _ (by simp only;omega),au,aad _ _ (by simp only;omega) (by simp only[r6];omega),au,dB (show x.jJ=x.jJ∧x.Epoch=x.Epoch∧x.Pairs=x.Pairs∧eT (BP x.fM)=x.fM from⟨rfl,rfl,rfl,r6⟩)]
  simp only[Bool.not_true,cond_false,au]
  rw[f_ (by omega) (by omega),f_ (by omega) (by omega),JM (by omega)]
  rfl
 rw[j2,au]
 simp only[nV,cond_false]
 have hz:WT ⟨⟨x.Pairs⟩,BP x.fM,x.jJ,x.Epoch⟩:=by
  have hk:=NC x.Pairs [] ok0
  have hq:=aaL x.Pairs [] (λp hp=>by simp at hp)
  rw[r5]at hk hq
  refine⟨⟨hk,WO _⟩,hq,λy hy=>?_⟩
  simp only[r6]at hy
  have:=List.any_eq_false.1 r7 y hy
  simpa using this
 have loop:∃e,kZ x3 (0,⟨⟨x.Pairs⟩,BP x.fM,x.jJ,x.Epoch⟩,⟨⟨x.Pairs⟩,BP x.fM,x.jJ,x.Epoch⟩)=some e∧∃s:aD,WT s∧s.ID=x.jJ∧s.Epoch=x.Epoch∧e=.inr (s,s):=by
  refine rF (λ(s:Int×aD×aD)=>x3.length-s.1.toNat) (λs=>∃(i:Nat) (t:aD),s=((i:Int),t,t)∧i≤x3.length∧WT t∧t.ID=x.jJ∧t.Epoch=x.Epoch) _ ?_ KK _ ⟨0,_,rfl,by omega,hz,rfl,rfl⟩ (by have:=EC;simp only;omega)
  rintro s ⟨i,t,rfl,g1,g2,g3,g4⟩
  simp only[fP]
  by_cases c:i<x3.length
  case neg =>
   right
   rw[bV (by omega),cond_false]
   exact⟨_,rfl,t,g2,g3,g4,rfl⟩
  left
  rw[dB (by omega),cond_true,jq c,au]
  obtain⟨r,hr⟩:=WE x3[i]
  obtain⟨a,b,t',t2,t1,t3,t4⟩:=aaQ r t g2
  rw[hr,au,Zu,t2,au,au,f_ (by omega) (by omega),gF]
  simp only[beq_self_eq_true,Bool.and_self,Bool.not_true,cond_false]
  exact⟨_,rfl,⟨i+1,t',rfl,by omega,t1,by rw[t3,g3],by rw[t4,g4]⟩,by simp only;omega⟩
 obtain⟨e,e1,s,hs',i1,i2,rfl⟩:=loop
 have hT:s.Table.l.length≤8:=hs'.1.1.2
 have hS:(eT s.bf).length≤4:=Gh s.bf
 have rr:=Px s hs' (by omega) (by omega) (by omega) (by omega)
 refine Eq.trans (congrArg (λz=>Option.bind z _) e1) ?_
 rw[au]
 simp only[nV,Qg,cond_false]
 rw[WW _ (by omega),au,au,aad _ _ (by simp only;omega) (by simp only;omega),au,dB (by simp),cond_true,au,Pv _ (by simp only;omega) (by simp only;omega),au,dB rr]
end Go.Proofs.Ytkedeiklmpkgkaa
