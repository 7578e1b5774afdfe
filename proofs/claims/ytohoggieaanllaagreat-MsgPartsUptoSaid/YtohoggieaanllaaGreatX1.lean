import Derived.Test.YtohoggieaanllaaGreatJ5
import Derived.Test.YtohoggieaanllaaGreatProg
set_option linter.all false
set_option maxRecDepth 100000
namespace Go.Proofs.YtohoggieaanllaaGreat
noncomputable def WF4:bC:={ nargs:=2,ntmps:=123,code:=codeOf (aS Tryz.prog 4 []),results:=[(.tmp 4)] }
theorem alN:aS Tryz.prog 4 []=some WF4:=by kernel_rfl
theorem alO:WF4.code.bB=true:=by kernel_rfl
noncomputable def YF:bO:=(cA (cB (cB (cB WF4.code))))
theorem YG:YF.bB=true:=by kernel_rfl
noncomputable def Vw:bO:=(cA (cB (cB (cB (cB WF4.code)))))
theorem W9:Vw.bB=true:=by kernel_rfl
noncomputable def WF8:bC:={ nargs:=2,ntmps:=154,code:=codeOf (aS Tryz.prog 8 [[1,2,4,5,6]]),results:=[(.cell 4 true 23)] }
theorem alP:aS Tryz.prog 8 [[1,2,4,5,6]]=some WF8:=by kernel_rfl
theorem alQ:WF8.code.bB=true:=by kernel_rfl
noncomputable def R7:bO:=(cA (cB (cB (cB WF8.code))))
theorem PD:R7.bB=true:=by kernel_rfl
noncomputable def YH:bO:=(cL (cK (cB (cA (cB (cB (cB (cB WF8.code))))))))
theorem YI:YH.bB=true:=by kernel_rfl
noncomputable def Dt:bO:=(cA (cL (cK (cB (cA (cB (cB (cB (cB WF8.code)))))))))
theorem Es:Dt.bB=true:=by kernel_rfl
noncomputable def Lg:bO:=(cA (cB (cB (cB (cB (cB WF8.code))))))
theorem Kw:Lg.bB=true:=by kernel_rfl
noncomputable def Ic:bO:=(cA (cA (cB (cB (cB (cB (cB WF8.code)))))))
theorem Ie:Ic.bB=true:=by kernel_rfl
noncomputable def YJ:bC:={ nargs:=1,ntmps:=46,code:=codeOf (aS Tryz.prog 10 []),results:=[(.tmp 2)] }
theorem aiQ:aS Tryz.prog 10 []=some YJ:=by kernel_rfl
theorem aiR:YJ.code.bB=true:=by kernel_rfl
noncomputable def YK:bO:=(cA (cB (cB YJ.code)))
theorem YL:YK.bB=true:=by kernel_rfl
noncomputable def R8:bO:=(cA (cK (cA (cB (cB YJ.code)))))
theorem Ul:R8.bB=true:=by kernel_rfl
noncomputable def PE:bO:=(cA (cA (cK (cA (cB (cB YJ.code))))))
theorem R9:PE.bB=true:=by kernel_rfl
noncomputable def adk:bC:={ nargs:=1,ntmps:=65,code:=codeOf (aS Tryz.prog 12 [[1,3,40,41,42]]),results:=[(.tmp 2)] }
theorem aiS:aS Tryz.prog 12 [[1,3,40,41,42]]=some adk:=by kernel_rfl
theorem aiT:adk.code.bB=true:=by kernel_rfl
noncomputable def aaL:bO:=(cL (cK (cB (cA (cB (cB (cB (cB (cB (cB adk.code))))))))))
theorem adl:aaL.bB=true:=by kernel_rfl
noncomputable def afe:bC:={ nargs:=2,ntmps:=52,code:=codeOf (aS Tryz.prog 13 []),results:=[(.tmp 4)] }
theorem aiU:aS Tryz.prog 13 []=some afe:=by kernel_rfl
theorem aiV:afe.code.bB=true:=by kernel_rfl
noncomputable def aaM:bC:={ nargs:=2,ntmps:=121,code:=codeOf (aS Tryz.prog 14 [[2,3,5]]),results:=[(.tmp 4)] }
theorem aiW:aS Tryz.prog 14 [[2,3,5]]=some aaM:=by kernel_rfl
theorem aiX:aaM.code.bB=true:=by kernel_rfl
noncomputable def acB:bO:=(cA (cB aaM.code))
theorem aaN:acB.bB=true:=by kernel_rfl
noncomputable def aaO:bO:=(cL (cK (cB (cA (cB (cB aaM.code))))))
theorem adn:aaO.bB=true:=by kernel_rfl
noncomputable def aff:bC:={ nargs:=2,ntmps:=14,code:=codeOf (aS Tryz.prog 16 []),results:=[(.tmp 4)] }
theorem aiY:aS Tryz.prog 16 []=some aff:=by kernel_rfl
theorem aiZ:aff.code.bB=true:=by kernel_rfl
noncomputable def aaP:bC:={ nargs:=1,ntmps:=43,code:=codeOf (aS Tryz.prog 17 []),results:=[(.cell 2 true 23),(.tmp 3)] }
theorem ai0:aS Tryz.prog 17 []=some aaP:=by kernel_rfl
theorem ai1:aaP.code.bB=true:=by kernel_rfl
noncomputable def Vx:bO:=(cA (cB (cB (cB aaP.code))))
theorem W_:Vx.bB=true:=by kernel_rfl
noncomputable def R_:bO:=(cA (cA (cB (cB (cB aaP.code)))))
theorem Um:R_.bB=true:=by kernel_rfl
noncomputable def afg:bC:={ nargs:=0,ntmps:=29,code:=codeOf (aS Tryz.prog 19 []),results:=[(.tmp 0)] }
theorem ai2:aS Tryz.prog 19 []=some afg:=by kernel_rfl
theorem ai3:afg.code.bB=true:=by kernel_rfl
noncomputable def afh:bC:={ nargs:=1,ntmps:=7,code:=codeOf (aS Tryz.prog 32 []),results:=[(.tmp 2)] }
theorem ai4:aS Tryz.prog 32 []=some afh:=by kernel_rfl
theorem ai5:afh.code.bB=true:=by kernel_rfl
noncomputable def aaQ:bC:={ nargs:=2,ntmps:=27,code:=codeOf (aS Tryz.prog 33 [[0,1,5,6]]),results:=[(.tmp 4)] }
theorem ai6:aS Tryz.prog 33 [[0,1,5,6]]=some aaQ:=by kernel_rfl
theorem ai7:aaQ.code.bB=true:=by kernel_rfl
noncomputable def Sc:bO:=(cL (cK (cB (cA (cB (cB aaQ.code))))))
theorem Vy:Sc.bB=true:=by kernel_rfl
noncomputable def FJ:bO:=(cA (cL (cK (cB (cA (cB (cB aaQ.code)))))))
theorem Gh:FJ.bB=true:=by kernel_rfl
noncomputable def afi:bC:={ nargs:=1,ntmps:=66,code:=codeOf (aS Tryz.prog 34 []),results:=[(.cell 2 true 6)] }
theorem ai8:aS Tryz.prog 34 []=some afi:=by kernel_rfl
theorem ai9:afi.code.bB=true:=by kernel_rfl
noncomputable def afj:bC:={ nargs:=1,ntmps:=9,code:=codeOf (aS Tryz.prog 35 []),results:=[(.tmp 2)] }
theorem aja:aS Tryz.prog 35 []=some afj:=by kernel_rfl
theorem ajb:afj.code.bB=true:=by kernel_rfl
noncomputable def aaR:bC:={ nargs:=4,ntmps:=113,code:=codeOf (aS Tryz.prog 36 [[2,3,8,9,10]]),results:=[(.cell 8 true 4)] }
theorem ajc:aS Tryz.prog 36 [[2,3,8,9,10]]=some aaR:=by kernel_rfl
theorem ajd:aaR.code.bB=true:=by kernel_rfl
noncomputable def Sd:bO:=(cL (cK (cB (cA (cB (cB aaR.code))))))
theorem Vz:Sd.bB=true:=by kernel_rfl
noncomputable def FK:bO:=(cA (cL (cK (cB (cA (cB (cB aaR.code)))))))
theorem Gi:FK.bB=true:=by kernel_rfl
noncomputable def ado:bC:={ nargs:=1,ntmps:=35,code:=codeOf (aS Tryz.prog 37 []),results:=[(.tmp 2)] }
theorem aje:aS Tryz.prog 37 []=some ado:=by kernel_rfl
theorem ajf:ado.code.bB=true:=by kernel_rfl
noncomputable def Sg:bO:=(cA (cK (cB (cA (cB ado.code)))))
theorem Un:Sg.bB=true:=by kernel_rfl
noncomputable def afk:bC:={ nargs:=1,ntmps:=6,code:=codeOf (aS Tryz.prog 43 []),results:=[(.tmp 2)] }
theorem ajg:aS Tryz.prog 43 []=some afk:=by kernel_rfl
theorem ajh:afk.code.bB=true:=by kernel_rfl
noncomputable def afl:bC:={ nargs:=1,ntmps:=9,code:=codeOf (aS Tryz.prog 44 []),results:=[(.tmp 2)] }
theorem aji:aS Tryz.prog 44 []=some afl:=by kernel_rfl
theorem ajj:afl.code.bB=true:=by kernel_rfl
noncomputable def afm:bC:={ nargs:=2,ntmps:=9,code:=codeOf (aS Tryz.prog 45 []),results:=[(.tmp 4)] }
theorem ajk:aS Tryz.prog 45 []=some afm:=by kernel_rfl
theorem ajl:afm.code.bB=true:=by kernel_rfl
noncomputable def afn:bC:={ nargs:=1,ntmps:=20,code:=codeOf (aS Tryz.prog 46 []),results:=[(.tmp 2)] }
theorem ajm:aS Tryz.prog 46 []=some afn:=by kernel_rfl
theorem ajn:afn.code.bB=true:=by kernel_rfl
noncomputable def afo:bC:={ nargs:=2,ntmps:=9,code:=codeOf (aS Tryz.prog 47 []),results:=[(.tmp 4)] }
theorem ajo:aS Tryz.prog 47 []=some afo:=by kernel_rfl
theorem ajp:afo.code.bB=true:=by kernel_rfl
noncomputable def afp:bC:={ nargs:=1,ntmps:=29,code:=codeOf (aS Tryz.prog 48 []),results:=[(.tmp 2)] }
theorem ajq:aS Tryz.prog 48 []=some afp:=by kernel_rfl
theorem ajr:afp.code.bB=true:=by kernel_rfl
noncomputable def afq:bC:={ nargs:=1,ntmps:=29,code:=codeOf (aS Tryz.prog 49 []),results:=[(.tmp 2)] }
theorem ajs:aS Tryz.prog 49 []=some afq:=by kernel_rfl
theorem ajt:afq.code.bB=true:=by kernel_rfl
noncomputable def afr:bC:={ nargs:=1,ntmps:=17,code:=codeOf (aS Tryz.prog 50 []),results:=[(.tmp 2)] }
theorem aju:aS Tryz.prog 50 []=some afr:=by kernel_rfl
theorem ajv:afr.code.bB=true:=by kernel_rfl
noncomputable def afs:bC:={ nargs:=1,ntmps:=9,code:=codeOf (aS Tryz.prog 51 []),results:=[(.tmp 2)] }
theorem ajw:aS Tryz.prog 51 []=some afs:=by kernel_rfl
theorem ajx:afs.code.bB=true:=by kernel_rfl
noncomputable def YM:bC:={ nargs:=2,ntmps:=41,code:=codeOf (aS Tryz.prog 55 [[5,10,11,12],[5,7,10,11,12]]),results:=[(.tmp 4)] }
theorem ajy:aS Tryz.prog 55 [[5,10,11,12],[5,7,10,11,12]]=some YM:=by kernel_rfl
theorem ajz:YM.code.bB=true:=by kernel_rfl
noncomputable def Sj:bO:=(cL (cK (cB (cA (cB (cB YM.code))))))
theorem VA:Sj.bB=true:=by kernel_rfl
noncomputable def wu:bO:=(cA (cB (cK (cA (cB (cB (cL (cK (cB (cA (cB (cB YM.code))))))))))))
theorem zh:wu.bB=true:=by kernel_rfl
noncomputable def Sk:bO:=(cL (cK (cA (cB (cB (cK (cA (cB (cB (cL (cK (cB (cA (cB (cB YM.code)))))))))))))))
theorem VB:Sk.bB=true:=by kernel_rfl
noncomputable def aft:bC:={ nargs:=1,ntmps:=4,code:=codeOf (aS Tryz.prog 56 []),results:=[(.tmp 2)] }
theorem ajA:aS Tryz.prog 56 []=some aft:=by kernel_rfl
theorem ajB:aft.code.bB=true:=by kernel_rfl
noncomputable def afu:bC:={ nargs:=2,ntmps:=17,code:=codeOf (aS Tryz.prog 57 []),results:=[(.tmp 4)] }
theorem ajC:aS Tryz.prog 57 []=some afu:=by kernel_rfl
theorem ajD:afu.code.bB=true:=by kernel_rfl
noncomputable def afv:bC:={ nargs:=2,ntmps:=29,code:=codeOf (aS Tryz.prog 58 []),results:=[(.tmp 4)] }
theorem ajE:aS Tryz.prog 58 []=some afv:=by kernel_rfl
theorem ajF:afv.code.bB=true:=by kernel_rfl
noncomputable def aaS:bC:={ nargs:=2,ntmps:=63,code:=codeOf (aS Tryz.prog 59 [[3,5,24,25,26],[5,45,46,47]]),results:=[(.tmp 4)] }
theorem ajG:aS Tryz.prog 59 [[3,5,24,25,26],[5,45,46,47]]=some aaS:=by kernel_rfl
theorem ajH:aaS.code.bB=true:=by kernel_rfl
noncomputable def aaT:bO:=(cL (cK (cB (cA (cB (cB (cB aaS.code)))))))
theorem adp:aaT.bB=true:=by kernel_rfl
noncomputable def aaU:bO:=(cL (cK (cB (cA (cB (cB (cB (cB (cB aaS.code)))))))))
theorem adq:aaU.bB=true:=by kernel_rfl
noncomputable def adr:bC:={ nargs:=2,ntmps:=26,code:=codeOf (aS Tryz.prog 60 [[0,1,12,13]]),results:=[(.tmp 4)] }
theorem ajI:aS Tryz.prog 60 [[0,1,12,13]]=some adr:=by kernel_rfl
theorem ajJ:adr.code.bB=true:=by kernel_rfl
noncomputable def aaV:bO:=(cL (cK (cB (cA (cB (cB adr.code))))))
theorem ads:aaV.bB=true:=by kernel_rfl
noncomputable def adt:bC:={ nargs:=2,ntmps:=26,code:=codeOf (aS Tryz.prog 61 [[0,1,12,13]]),results:=[(.tmp 4)] }
theorem ajK:aS Tryz.prog 61 [[0,1,12,13]]=some adt:=by kernel_rfl
theorem ajL:adt.code.bB=true:=by kernel_rfl
noncomputable def aaW:bO:=(cL (cK (cB (cA (cB (cB adt.code))))))
theorem adu:aaW.bB=true:=by kernel_rfl
noncomputable def afw:bC:={ nargs:=2,ntmps:=31,code:=codeOf (aS Tryz.prog 62 []),results:=[(.tmp 4)] }
theorem ajM:aS Tryz.prog 62 []=some afw:=by kernel_rfl
theorem ajN:afw.code.bB=true:=by kernel_rfl
noncomputable def adv:bC:={ nargs:=2,ntmps:=26,code:=codeOf (aS Tryz.prog 63 [[0,1,5]]),results:=[(.tmp 4)] }
theorem ajO:aS Tryz.prog 63 [[0,1,5]]=some adv:=by kernel_rfl
theorem ajP:adv.code.bB=true:=by kernel_rfl
noncomputable def aaX:bO:=(cL (cK (cB (cA (cB (cB adv.code))))))
theorem adw:aaX.bB=true:=by kernel_rfl
noncomputable def YN:bC:={ nargs:=2,ntmps:=73,code:=codeOf (aS Tryz.prog 64 [[2,3,5],[2,3,6]]),results:=[(.tmp 4)] }
theorem ajQ:aS Tryz.prog 64 [[2,3,5],[2,3,6]]=some YN:=by kernel_rfl
theorem ajR:YN.code.bB=true:=by kernel_rfl
noncomputable def acC:bO:=(cA (cB YN.code))
theorem aaY:acC.bB=true:=by kernel_rfl
noncomputable def aaZ:bO:=(cL (cK (cB (cA (cB (cB YN.code))))))
theorem adx:aaZ.bB=true:=by kernel_rfl
noncomputable def aa0:bO:=(cL (cK (cB (cA (cB (cB (cB YN.code)))))))
theorem ady:aa0.bB=true:=by kernel_rfl
noncomputable def YO:bC:={ nargs:=1,ntmps:=128,code:=codeOf (aS Tryz.prog 65 [[0,2,91,92]]),results:=[(.cell 2 true 23)] }
theorem ajS:aS Tryz.prog 65 [[0,2,91,92]]=some YO:=by kernel_rfl
theorem ajT:YO.code.bB=true:=by kernel_rfl
noncomputable def Sm:bO:=(cA (cB (cB (cB (cB YO.code)))))
theorem Uo:Sm.bB=true:=by kernel_rfl
noncomputable def PG:bO:=(cA (cB (cB (cB (cB (cB YO.code))))))
theorem Sn:PG.bB=true:=by kernel_rfl
noncomputable def aa1:bO:=(cL (cK (cB (cA (cB (cB (cB (cB (cB (cB (cB YO.code)))))))))))
theorem adz:aa1.bB=true:=by kernel_rfl
noncomputable def afx:bC:={ nargs:=1,ntmps:=28,code:=codeOf (aS Tryz.prog 76 []),results:=[(.cell 2 true 5)] }
theorem ajU:aS Tryz.prog 76 []=some afx:=by kernel_rfl
theorem ajV:afx.code.bB=true:=by kernel_rfl
noncomputable def aa2:bC:={ nargs:=4,ntmps:=34,code:=codeOf (aS Tryz.prog 77 []),results:=[(.cell 8 true 4)] }
theorem ajW:aS Tryz.prog 77 []=some aa2:=by kernel_rfl
theorem ajX:aa2.code.bB=true:=by kernel_rfl
noncomputable def YP:bO:=(cA (cB (cB aa2.code)))
theorem YQ:YP.bB=true:=by kernel_rfl
noncomputable def VD:bO:=(cA (cA (cB (cB aa2.code))))
theorem Xa:VD.bB=true:=by kernel_rfl
noncomputable def afy:bC:={ nargs:=2,ntmps:=13,code:=codeOf (aS Tryz.prog 78 []),results:=[(.tmp 4)] }
theorem ajY:aS Tryz.prog 78 []=some afy:=by kernel_rfl
theorem ajZ:afy.code.bB=true:=by kernel_rfl
noncomputable def afz:bC:={ nargs:=1,ntmps:=6,code:=codeOf (aS Tryz.prog 79 []),results:=[(.tmp 2)] }
theorem aj0:aS Tryz.prog 79 []=some afz:=by kernel_rfl
theorem aj1:afz.code.bB=true:=by kernel_rfl
noncomputable def afA:bC:={ nargs:=1,ntmps:=26,code:=codeOf (aS Tryz.prog 80 []),results:=[(.tmp 2)] }
theorem aj2:aS Tryz.prog 80 []=some afA:=by kernel_rfl
theorem aj3:afA.code.bB=true:=by kernel_rfl
noncomputable def afB:bC:={ nargs:=1,ntmps:=15,code:=codeOf (aS Tryz.prog 81 []),results:=[(.tmp 2)] }
theorem aj4:aS Tryz.prog 81 []=some afB:=by kernel_rfl
theorem aj5:afB.code.bB=true:=by kernel_rfl
noncomputable def afC:bC:={ nargs:=2,ntmps:=54,code:=codeOf (aS Tryz.prog 82 []),results:=[(.cell 4 true 2),(.tmp 5)] }
theorem aj6:aS Tryz.prog 82 []=some afC:=by kernel_rfl
theorem aj7:afC.code.bB=true:=by kernel_rfl
noncomputable def afD:bC:={ nargs:=1,ntmps:=26,code:=codeOf (aS Tryz.prog 83 []),results:=[(.cell 2 true 4)] }
theorem aj8:aS Tryz.prog 83 []=some afD:=by kernel_rfl
theorem aj9:afD.code.bB=true:=by kernel_rfl
noncomputable def afE:bC:={ nargs:=1,ntmps:=7,code:=codeOf (aS Tryz.prog 84 []),results:=[(.tmp 2)] }
theorem akb:aS Tryz.prog 84 []=some afE:=by kernel_rfl
theorem akc:afE.code.bB=true:=by kernel_rfl
noncomputable def adA:bC:={ nargs:=2,ntmps:=19,code:=codeOf (aS Tryz.prog 86 [[0,1,7,8]]),results:=[(.tmp 4)] }
theorem akd:aS Tryz.prog 86 [[0,1,7,8]]=some adA:=by kernel_rfl
theorem ake:adA.code.bB=true:=by kernel_rfl
noncomputable def aa3:bO:=(cL (cK (cB (cA (cB adA.code)))))
theorem adB:aa3.bB=true:=by kernel_rfl
noncomputable def adC:bC:={ nargs:=2,ntmps:=19,code:=codeOf (aS Tryz.prog 87 [[0,1,7,8]]),results:=[(.tmp 4)] }
theorem akf:aS Tryz.prog 87 [[0,1,7,8]]=some adC:=by kernel_rfl
theorem akg:adC.code.bB=true:=by kernel_rfl
noncomputable def aa4:bO:=(cL (cK (cB (cA (cB adC.code)))))
theorem adD:aa4.bB=true:=by kernel_rfl
noncomputable def Xb:bC:={ nargs:=1,ntmps:=53,code:=codeOf (aS Tryz.prog 88 []),results:=[(.tmp 2)] }
theorem akh:aS Tryz.prog 88 []=some Xb:=by kernel_rfl
theorem aki:Xb.code.bB=true:=by kernel_rfl
noncomputable def acD:bO:=(cA (cB Xb.code))
theorem aa5:acD.bB=true:=by kernel_rfl
noncomputable def YR:bO:=(cA (cB (cB Xb.code)))
theorem YS:YR.bB=true:=by kernel_rfl
noncomputable def Sq:bO:=(cA (cK (cA (cB (cB Xb.code)))))
theorem Uq:Sq.bB=true:=by kernel_rfl
noncomputable def PI:bO:=(cA (cA (cK (cA (cB (cB Xb.code))))))
theorem Sr:PI.bB=true:=by kernel_rfl
noncomputable def afF:bC:={ nargs:=1,ntmps:=23,code:=codeOf (aS Tryz.prog 89 []),results:=[(.tmp 2)] }
theorem akj:aS Tryz.prog 89 []=some afF:=by kernel_rfl
theorem akk:afF.code.bB=true:=by kernel_rfl
noncomputable def aa6:bC:={ nargs:=1,ntmps:=44,code:=codeOf (aS Tryz.prog 90 []),results:=[(.tmp 2)] }
theorem akl:aS Tryz.prog 90 []=some aa6:=by kernel_rfl
theorem akm:aa6.code.bB=true:=by kernel_rfl
noncomputable def acE:bO:=(cA (cB aa6.code))
theorem aa7:acE.bB=true:=by kernel_rfl
noncomputable def VE:bO:=(cA (cB (cB (cB aa6.code))))
theorem Xc:VE.bB=true:=by kernel_rfl
noncomputable def afG:bC:={ nargs:=1,ntmps:=8,code:=codeOf (aS Tryz.prog 93 []),results:=[(.tmp 2)] }
theorem akn:aS Tryz.prog 93 []=some afG:=by kernel_rfl
theorem ako:afG.code.bB=true:=by kernel_rfl
noncomputable def afH:bC:={ nargs:=1,ntmps:=9,code:=codeOf (aS Tryz.prog 94 []),results:=[(.tmp 2)] }
theorem akp:aS Tryz.prog 94 []=some afH:=by kernel_rfl
theorem akq:afH.code.bB=true:=by kernel_rfl
noncomputable def adE:bC:={ nargs:=2,ntmps:=26,code:=codeOf (aS Tryz.prog 95 [[5,10,11,12]]),results:=[(.tmp 4)] }
theorem akr:aS Tryz.prog 95 [[5,10,11,12]]=some adE:=by kernel_rfl
theorem aks:adE.code.bB=true:=by kernel_rfl
noncomputable def aa8:bO:=(cL (cK (cB (cA (cB (cB adE.code))))))
theorem adF:aa8.bB=true:=by kernel_rfl
noncomputable def adG:bC:={ nargs:=2,ntmps:=26,code:=codeOf (aS Tryz.prog 96 [[0,1,12,13]]),results:=[(.tmp 4)] }
theorem akt:aS Tryz.prog 96 [[0,1,12,13]]=some adG:=by kernel_rfl
theorem aku:adG.code.bB=true:=by kernel_rfl
noncomputable def aa9:bO:=(cL (cK (cB (cA (cB (cB adG.code))))))
theorem adH:aa9.bB=true:=by kernel_rfl
noncomputable def adI:bC:={ nargs:=2,ntmps:=26,code:=codeOf (aS Tryz.prog 97 [[0,1,12,13]]),results:=[(.tmp 4)] }
theorem akv:aS Tryz.prog 97 [[0,1,12,13]]=some adI:=by kernel_rfl
theorem akw:adI.code.bB=true:=by kernel_rfl
noncomputable def abb:bO:=(cL (cK (cB (cA (cB (cB adI.code))))))
theorem adJ:abb.bB=true:=by kernel_rfl
noncomputable def afI:bC:={ nargs:=2,ntmps:=37,code:=codeOf (aS Tryz.prog 98 []),results:=[(.tmp 4)] }
theorem akx:aS Tryz.prog 98 []=some afI:=by kernel_rfl
theorem aky:afI.code.bB=true:=by kernel_rfl
noncomputable def afJ:bC:={ nargs:=2,ntmps:=17,code:=codeOf (aS Tryz.prog 99 []),results:=[(.tmp 4)] }
theorem akz:aS Tryz.prog 99 []=some afJ:=by kernel_rfl
theorem akA:afJ.code.bB=true:=by kernel_rfl
noncomputable def YT:bC:={ nargs:=1,ntmps:=53,code:=codeOf (aS Tryz.prog 100 []),results:=[(.cell 2 true 6),(.tmp 3),(.tmp 4)] }
theorem afK:aS Tryz.prog 100 []=some YT:=by kernel_rfl
theorem afL:YT.code.bB=true:=by kernel_rfl
noncomputable def YU:bC:={ nargs:=1,ntmps:=36,code:=codeOf (aS Tryz.prog 101 []),results:=[(.cell 2 true 2),(.tmp 3),(.tmp 4)] }
theorem afM:aS Tryz.prog 101 []=some YU:=by kernel_rfl
theorem afN:YU.code.bB=true:=by kernel_rfl
noncomputable def YV:bC:={ nargs:=1,ntmps:=9,code:=codeOf (aS Tryz.prog 102 []),results:=[(.tmp 2)] }
theorem afO:aS Tryz.prog 102 []=some YV:=by kernel_rfl
theorem afP:YV.code.bB=true:=by kernel_rfl
noncomputable def YW:bC:={ nargs:=1,ntmps:=22,code:=codeOf (aS Tryz.prog 103 []),results:=[(.cell 2 true 5)] }
theorem afQ:aS Tryz.prog 103 []=some YW:=by kernel_rfl
theorem afR:YW.code.bB=true:=by kernel_rfl
noncomputable def YX:bC:={ nargs:=1,ntmps:=9,code:=codeOf (aS Tryz.prog 104 []),results:=[(.tmp 2)] }
theorem afS:aS Tryz.prog 104 []=some YX:=by kernel_rfl
theorem afT:YX.code.bB=true:=by kernel_rfl
noncomputable def MN:bC:={ nargs:=1,ntmps:=80,code:=codeOf (aS Tryz.prog 105 [[2,5,21,22],[2,5,33,34]]),results:=[(.cell 2 true 4),(.tmp 3),(.tmp 4)] }
theorem afU:aS Tryz.prog 105 [[2,5,21,22],[2,5,33,34]]=some MN:=by kernel_rfl
theorem afV:MN.code.bB=true:=by kernel_rfl
noncomputable def Xd:bO:=(cL (cK (cB (cA (cB (cB (cB (cB MN.code))))))))
theorem abd:Xd.bB=true:=by kernel_rfl
noncomputable def Xe:bO:=(cL (cK (cB (cA (cB (cB (cB (cB (cB MN.code)))))))))
theorem abe:Xe.bB=true:=by kernel_rfl
noncomputable def Ky:bO:=(cA (cB (cB (cB (cB (cB (cB MN.code)))))))
theorem Oo:Ky.bB=true:=by kernel_rfl
noncomputable def Ig:bO:=(cA (cA (cB (cB (cB (cB (cB (cB MN.code))))))))
theorem MO:Ig.bB=true:=by kernel_rfl
noncomputable def YZ:bC:={ nargs:=1,ntmps:=7,code:=codeOf (aS Tryz.prog 109 []),results:=[(.tmp 2)] }
theorem afW:aS Tryz.prog 109 []=some YZ:=by kernel_rfl
theorem afX:YZ.code.bB=true:=by kernel_rfl
noncomputable def VF:bC:={ nargs:=1,ntmps:=58,code:=codeOf (aS Tryz.prog 110 []),results:=[(.tmp 2)] }
theorem afY:aS Tryz.prog 110 []=some VF:=by kernel_rfl
theorem afZ:VF.code.bB=true:=by kernel_rfl
noncomputable def Y0:bO:=(cA (cB VF.code))
theorem Y1:Y0.bB=true:=by kernel_rfl
noncomputable def VG:bC:={ nargs:=1,ntmps:=25,code:=codeOf (aS Tryz.prog 111 [[0,2,3,4]]),results:=[(.cell 2 true 1)] }
theorem af0:aS Tryz.prog 111 [[0,2,3,4]]=some VG:=by kernel_rfl
theorem af2:VG.code.bB=true:=by kernel_rfl
noncomputable def Xf:bO:=(cL (cK (cB (cA (cB (cB VG.code))))))
theorem abf:Xf.bB=true:=by kernel_rfl
noncomputable def VH:bC:={ nargs:=1,ntmps:=18,code:=codeOf (aS Tryz.prog 112 [[0,2,3,4]]),results:=[(.cell 2 true 1)] }
theorem af3:aS Tryz.prog 112 [[0,2,3,4]]=some VH:=by kernel_rfl
theorem af4:VH.code.bB=true:=by kernel_rfl
noncomputable def Xg:bO:=(cL (cK (cB (cA (cB (cB VH.code))))))
theorem abg:Xg.bB=true:=by kernel_rfl
noncomputable def VJ:bC:={ nargs:=2,ntmps:=34,code:=codeOf (aS Tryz.prog 113 [[0,1,4,6]]),results:=[(.cell 4 true 4),(.tmp 5)] }
theorem af5:aS Tryz.prog 113 [[0,1,4,6]]=some VJ:=by kernel_rfl
theorem af6:VJ.code.bB=true:=by kernel_rfl
noncomputable def MP:bO:=(cL (cK (cB (cA (cB VJ.code)))))
theorem Sv:MP.bB=true:=by kernel_rfl
noncomputable def Sw:bC:={ nargs:=2,ntmps:=147,code:=codeOf (aS Tryz.prog 114 []),results:=[(.cell 4 true 2)] }
theorem af7:aS Tryz.prog 114 []=some Sw:=by kernel_rfl
theorem af8:Sw.code.bB=true:=by kernel_rfl
noncomputable def wz:bO:=(cA (cT (cB (cF (cB (cK (cB (cA (cB (cB (cB Sw.code)))))))))))
theorem zi:wz.bB=true:=by kernel_rfl
noncomputable def qO:bO:=(cA (cB (cB (cB (cT (cB (cF (cB (cK (cB (cA (cB (cB (cB Sw.code))))))))))))))
theorem vG:qO.bB=true:=by kernel_rfl
noncomputable def Kz:bC:={ nargs:=2,ntmps:=96,code:=codeOf (aS Tryz.prog 115 [[0,3,7,8,9]]),results:=[(.tmp 4)] }
theorem af9:aS Tryz.prog 115 [[0,3,7,8,9]]=some Kz:=by kernel_rfl
theorem aga:Kz.code.bB=true:=by kernel_rfl
noncomputable def Oq:bO:=(cA (cB (cB Kz.code)))
theorem MQ:Oq.bB=true:=by kernel_rfl
noncomputable def MR:bO:=(cL (cK (cB (cA (cB (cB (cB (cB (cB Kz.code)))))))))
theorem Sy:MR.bB=true:=by kernel_rfl
noncomputable def tC:bO:=(cA (cK (cA (cB (cL (cK (cB (cA (cB (cB (cB (cB (cB Kz.code)))))))))))))
theorem wC:tC.bB=true:=by kernel_rfl
noncomputable def qP:bO:=(cA (cA (cK (cA (cB (cL (cK (cB (cA (cB (cB (cB (cB (cB Kz.code))))))))))))))
theorem vH:qP.bB=true:=by kernel_rfl
noncomputable def Du:bO:=(cA (cB (cB (cB (cB (cB (cB Kz.code)))))))
theorem Et:Du.bB=true:=by kernel_rfl
noncomputable def Y2:bC:={ nargs:=1,ntmps:=14,code:=codeOf (aS Tryz.prog 116 []),results:=[(.cell 2 true 19)] }
theorem agb:aS Tryz.prog 116 []=some Y2:=by kernel_rfl
theorem agc:Y2.code.bB=true:=by kernel_rfl
noncomputable def Y3:bC:={ nargs:=1,ntmps:=9,code:=codeOf (aS Tryz.prog 117 []),results:=[(.tmp 2)] }
theorem agd:aS Tryz.prog 117 []=some Y3:=by kernel_rfl
theorem agf:Y3.code.bB=true:=by kernel_rfl
noncomputable def VK:bC:={ nargs:=1,ntmps:=23,code:=codeOf (aS Tryz.prog 118 [[3,9,10]]),results:=[(.tmp 2)] }
theorem agh:aS Tryz.prog 118 [[3,9,10]]=some VK:=by kernel_rfl
theorem agi:VK.code.bB=true:=by kernel_rfl
noncomputable def Xh:bO:=(cL (cK (cB (cA (cB (cB VK.code))))))
theorem abh:Xh.bB=true:=by kernel_rfl
noncomputable def Y4:bC:={ nargs:=2,ntmps:=9,code:=codeOf (aS Tryz.prog 119 []),results:=[(.tmp 4)] }
theorem agj:aS Tryz.prog 119 []=some Y4:=by kernel_rfl
theorem agk:Y4.code.bB=true:=by kernel_rfl
noncomputable def Y5:bC:={ nargs:=1,ntmps:=6,code:=codeOf (aS Tryz.prog 120 []),results:=[(.tmp 2)] }
theorem agl:aS Tryz.prog 120 []=some Y5:=by kernel_rfl
theorem agm:Y5.code.bB=true:=by kernel_rfl
noncomputable def VN:bC:={ nargs:=1,ntmps:=21,code:=codeOf (aS Tryz.prog 121 []),results:=[(.tmp 2)] }
theorem agn:aS Tryz.prog 121 []=some VN:=by kernel_rfl
theorem agp:VN.code.bB=true:=by kernel_rfl
noncomputable def PK:bO:=(cA (cK (cB (cA (cB VN.code)))))
theorem Sz:PK.bB=true:=by kernel_rfl
noncomputable def VO:bC:={ nargs:=2,ntmps:=40,code:=codeOf (aS Tryz.prog 122 [[0,4,7,12,13]]),results:=[(.tmp 4),(.tmp 5),(.tmp 6)] }
theorem agq:aS Tryz.prog 122 [[0,4,7,12,13]]=some VO:=by kernel_rfl
theorem agr:VO.code.bB=true:=by kernel_rfl
noncomputable def Xi:bO:=(cL (cK (cB (cA (cB (cB VO.code))))))
theorem abj:Xi.bB=true:=by kernel_rfl
noncomputable def VP:bC:={ nargs:=2,ntmps:=27,code:=codeOf (aS Tryz.prog 123 [[0,4,8,9]]),results:=[(.tmp 4),(.tmp 5),(.tmp 6)] }
theorem ags:aS Tryz.prog 123 [[0,4,8,9]]=some VP:=by kernel_rfl
theorem agt:VP.code.bB=true:=by kernel_rfl
noncomputable def Xj:bO:=(cL (cK (cB (cA (cB VP.code)))))
theorem abk:Xj.bB=true:=by kernel_rfl
noncomputable def Y6:bC:={ nargs:=1,ntmps:=20,code:=codeOf (aS Tryz.prog 124 []),results:=[(.tmp 2),(.tmp 3),(.tmp 4)] }
theorem agu:aS Tryz.prog 124 []=some Y6:=by kernel_rfl
theorem agv:Y6.code.bB=true:=by kernel_rfl
noncomputable def Y7:bC:={ nargs:=1,ntmps:=37,code:=codeOf (aS Tryz.prog 125 []),results:=[(.tmp 2),(.tmp 3),(.tmp 4)] }
theorem agw:aS Tryz.prog 125 []=some Y7:=by kernel_rfl
theorem agx:Y7.code.bB=true:=by kernel_rfl
noncomputable def Y8:bC:={ nargs:=2,ntmps:=37,code:=codeOf (aS Tryz.prog 126 []),results:=[(.tmp 4)] }
theorem agy:aS Tryz.prog 126 []=some Y8:=by kernel_rfl
theorem agz:Y8.code.bB=true:=by kernel_rfl
noncomputable def Y9:bC:={ nargs:=2,ntmps:=17,code:=codeOf (aS Tryz.prog 127 []),results:=[(.tmp 4)] }
theorem agA:aS Tryz.prog 127 []=some Y9:=by kernel_rfl
theorem agB:Y9.code.bB=true:=by kernel_rfl
noncomputable def Y_:bC:={ nargs:=1,ntmps:=37,code:=codeOf (aS Tryz.prog 128 []),results:=[(.cell 2 true 2)] }
theorem agC:aS Tryz.prog 128 []=some Y_:=by kernel_rfl
theorem agD:Y_.code.bB=true:=by kernel_rfl
noncomputable def Za:bC:={ nargs:=1,ntmps:=36,code:=codeOf (aS Tryz.prog 129 []),results:=[(.cell 2 true 4)] }
theorem agE:aS Tryz.prog 129 []=some Za:=by kernel_rfl
theorem agF:Za.code.bB=true:=by kernel_rfl
noncomputable def Zb:bC:={ nargs:=1,ntmps:=9,code:=codeOf (aS Tryz.prog 130 []),results:=[(.tmp 2)] }
theorem agG:aS Tryz.prog 130 []=some Zb:=by kernel_rfl
theorem agH:Zb.code.bB=true:=by kernel_rfl
noncomputable def Zc:bC:={ nargs:=1,ntmps:=9,code:=codeOf (aS Tryz.prog 131 []),results:=[(.tmp 2)] }
theorem agI:aS Tryz.prog 131 []=some Zc:=by kernel_rfl
theorem agJ:Zc.code.bB=true:=by kernel_rfl
noncomputable def VQ:bC:={ nargs:=2,ntmps:=42,code:=codeOf (aS Tryz.prog 134 [[0,1,6]]),results:=[(.tmp 4),(.tmp 5)] }
theorem agK:aS Tryz.prog 134 [[0,1,6]]=some VQ:=by kernel_rfl
theorem agL:VQ.code.bB=true:=by kernel_rfl
noncomputable def MS:bO:=(cL (cK (cB (cA (cB VQ.code)))))
theorem SA:MS.bB=true:=by kernel_rfl
noncomputable def VT:bC:={ nargs:=1,ntmps:=20,code:=codeOf (aS Tryz.prog 135 [[2,3,6,7,8]]),results:=[(.cell 2 true 1)] }
theorem agM:aS Tryz.prog 135 [[2,3,6,7,8]]=some VT:=by kernel_rfl
theorem agN:VT.code.bB=true:=by kernel_rfl
noncomputable def Xk:bO:=(cL (cK (cB (cA (cB (cB VT.code))))))
theorem abl:Xk.bB=true:=by kernel_rfl
noncomputable def VU:bC:={ nargs:=1,ntmps:=16,code:=codeOf (aS Tryz.prog 136 [[2,3,6,7,8]]),results:=[(.cell 2 true 16)] }
theorem agO:aS Tryz.prog 136 [[2,3,6,7,8]]=some VU:=by kernel_rfl
theorem agP:VU.code.bB=true:=by kernel_rfl
noncomputable def Xl:bO:=(cL (cK (cB (cA (cB (cB VU.code))))))
theorem abm:Xl.bB=true:=by kernel_rfl
noncomputable def Zd:bC:={ nargs:=1,ntmps:=8,code:=codeOf (aS Tryz.prog 137 []),results:=[(.tmp 2)] }
theorem agQ:aS Tryz.prog 137 []=some Zd:=by kernel_rfl
theorem agR:Zd.code.bB=true:=by kernel_rfl
noncomputable def VW:bC:={ nargs:=2,ntmps:=19,code:=codeOf (aS Tryz.prog 138 [[0,1,7,8]]),results:=[(.tmp 4)] }
theorem agS:aS Tryz.prog 138 [[0,1,7,8]]=some VW:=by kernel_rfl
theorem agT:VW.code.bB=true:=by kernel_rfl
noncomputable def Xm:bO:=(cL (cK (cB (cA (cB VW.code)))))
theorem abn:Xm.bB=true:=by kernel_rfl
noncomputable def PL:bC:={ nargs:=1,ntmps:=47,code:=codeOf (aS Tryz.prog 139 [[0,2,5,6]]),results:=[(.tmp 2),(.tmp 3),(.tmp 4)] }
theorem agU:aS Tryz.prog 139 [[0,2,5,6]]=some PL:=by kernel_rfl
theorem agV:PL.code.bB=true:=by kernel_rfl
noncomputable def SB:bO:=(cA (cB (cB (cB PL.code))))
theorem Ur:SB.bB=true:=by kernel_rfl
noncomputable def Xn:bO:=(cL (cK (cB (cA (cB (cB (cB (cB PL.code))))))))
theorem abo:Xn.bB=true:=by kernel_rfl
noncomputable def MU:bO:=(cA (cB (cB (cB (cB (cB PL.code))))))
theorem Qi:MU.bB=true:=by kernel_rfl
noncomputable def Ze:bC:={ nargs:=1,ntmps:=6,code:=codeOf (aS Tryz.prog 140 []),results:=[(.tmp 2)] }
theorem agW:aS Tryz.prog 140 []=some Ze:=by kernel_rfl
theorem agY:Ze.code.bB=true:=by kernel_rfl
noncomputable def Zf:bC:={ nargs:=2,ntmps:=65,code:=codeOf (aS Tryz.prog 141 []),results:=[(.cell 4 true 2)] }
theorem agZ:aS Tryz.prog 141 []=some Zf:=by kernel_rfl
theorem ag0:Zf.code.bB=true:=by kernel_rfl
noncomputable def VX:bC:={ nargs:=2,ntmps:=38,code:=codeOf (aS Tryz.prog 142 []),results:=[(.tmp 4)] }
theorem ag1:aS Tryz.prog 142 []=some VX:=by kernel_rfl
theorem ag2:VX.code.bB=true:=by kernel_rfl
noncomputable def Zg:bO:=(cA (cB VX.code))
theorem Zh:Zg.bB=true:=by kernel_rfl
noncomputable def VY:bC:={ nargs:=2,ntmps:=19,code:=codeOf (aS Tryz.prog 143 [[0,1,7,8]]),results:=[(.tmp 4)] }
theorem ag3:aS Tryz.prog 143 [[0,1,7,8]]=some VY:=by kernel_rfl
theorem ag4:VY.code.bB=true:=by kernel_rfl
noncomputable def Xo:bO:=(cL (cK (cB (cA (cB VY.code)))))
theorem abp:Xo.bB=true:=by kernel_rfl
noncomputable def Zi:bC:={ nargs:=1,ntmps:=6,code:=codeOf (aS Tryz.prog 144 []),results:=[(.tmp 2)] }
theorem ag5:aS Tryz.prog 144 []=some Zi:=by kernel_rfl
theorem ag6:Zi.code.bB=true:=by kernel_rfl
noncomputable def Zj:bC:={ nargs:=2,ntmps:=14,code:=codeOf (aS Tryz.prog 145 []),results:=[(.tmp 4),(.tmp 5)] }
theorem ag7:aS Tryz.prog 145 []=some Zj:=by kernel_rfl
theorem ag8:Zj.code.bB=true:=by kernel_rfl
noncomputable def Zk:bC:={ nargs:=4,ntmps:=41,code:=codeOf (aS Tryz.prog 146 []),results:=[(.cell 8 true 2)] }
theorem ag9:aS Tryz.prog 146 []=some Zk:=by kernel_rfl
theorem aha:Zk.code.bB=true:=by kernel_rfl
noncomputable def Zl:bC:={ nargs:=3,ntmps:=28,code:=codeOf (aS Tryz.prog 147 []),results:=[(.cell 6 true 2)] }
theorem ahb:aS Tryz.prog 147 []=some Zl:=by kernel_rfl
theorem ahc:Zl.code.bB=true:=by kernel_rfl
noncomputable def Zm:bC:={ nargs:=3,ntmps:=33,code:=codeOf (aS Tryz.prog 148 []),results:=[(.tmp 6)] }
theorem ahd:aS Tryz.prog 148 []=some Zm:=by kernel_rfl
theorem ahe:Zm.code.bB=true:=by kernel_rfl
noncomputable def VZ:bC:={ nargs:=3,ntmps:=49,code:=codeOf (aS Tryz.prog 149 [[0,1,2,8,9,10]]),results:=[(.tmp 6),(.tmp 7)] }
theorem ahf:aS Tryz.prog 149 [[0,1,2,8,9,10]]=some VZ:=by kernel_rfl
theorem ahg:VZ.code.bB=true:=by kernel_rfl
noncomputable def Xp:bO:=(cL (cK (cA (cB (cB (cB VZ.code))))))
theorem abq:Xp.bB=true:=by kernel_rfl
noncomputable def Zn:bC:={ nargs:=2,ntmps:=9,code:=codeOf (aS Tryz.prog 150 []),results:=[(.tmp 4)] }
theorem ahh:aS Tryz.prog 150 []=some Zn:=by kernel_rfl
theorem ahj:Zn.code.bB=true:=by kernel_rfl
noncomputable def Zo:bC:={ nargs:=2,ntmps:=20,code:=codeOf (aS Tryz.prog 151 []),results:=[(.tmp 4)] }
theorem ahk:aS Tryz.prog 151 []=some Zo:=by kernel_rfl
theorem ahl:Zo.code.bB=true:=by kernel_rfl
noncomputable def Zp:bC:={ nargs:=3,ntmps:=22,code:=codeOf (aS Tryz.prog 152 []),results:=[] }
theorem ahm:aS Tryz.prog 152 []=some Zp:=by kernel_rfl
theorem ahn:Zp.code.bB=true:=by kernel_rfl
noncomputable def ak5:bC:={ nargs:=3,ntmps:=95,code:=codeOf (aS Tryz.prog 153 []),results:=[(.tmp 6)] }
theorem aho:aS Tryz.prog 153 []=some ak5:=by kernel_rfl
noncomputable def Zq:bC:={ nargs:=1,ntmps:=6,code:=codeOf (aS Tryz.prog 154 []),results:=[(.tmp 2)] }
theorem ahp:aS Tryz.prog 154 []=some Zq:=by kernel_rfl
theorem ahq:Zq.code.bB=true:=by kernel_rfl
noncomputable def Zr:bC:={ nargs:=2,ntmps:=10,code:=codeOf (aS Tryz.prog 156 []),results:=[] }
theorem ahr:aS Tryz.prog 156 []=some Zr:=by kernel_rfl
theorem ahs:Zr.code.bB=true:=by kernel_rfl
noncomputable def Zt:bC:={ nargs:=2,ntmps:=14,code:=codeOf (aS Tryz.prog 157 []),results:=[] }
theorem aht:aS Tryz.prog 157 []=some Zt:=by kernel_rfl
theorem ahu:Zt.code.bB=true:=by kernel_rfl
noncomputable def Zu:bC:={ nargs:=1,ntmps:=28,code:=codeOf (aS Tryz.prog 158 [[0,2,3]]),results:=[] }
theorem ahv:aS Tryz.prog 158 [[0,2,3]]=some Zu:=by kernel_rfl
theorem ahw:Zu.code.bB=true:=by kernel_rfl
end Go.Proofs.YtohoggieaanllaaGreat
