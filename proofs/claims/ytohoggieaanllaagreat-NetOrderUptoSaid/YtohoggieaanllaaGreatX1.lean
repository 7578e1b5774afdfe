import Derived.Test.YtohoggieaanllaaGreatJ5
import Derived.Test.YtohoggieaanllaaGreatProg
set_option linter.all false
set_option maxRecDepth 100000
namespace Go.Proofs.YtohoggieaanllaaGreat
noncomputable def WF5:bC:={ nargs:=3,ntmps:=107,code:=codeOf (aR Tryz.prog 5 [[0,1,2,7,8,9],[7,83,84,85]]),results:=[(.tmp 6)] }
theorem avK:aR Tryz.prog 5 [[0,1,2,7,8,9],[7,83,84,85]]=some WF5:=by kernel_rfl
theorem avL:WF5.code.bB=true:=by kernel_rfl
noncomputable def ant:bG:=(cL (cK (cB (cA (cB (cB (cB WF5.code)))))))
theorem anu:ant.bB=true:=by kernel_rfl
noncomputable def Tk:bG:=(cA (cL (cK (cB (cA (cB (cB (cB WF5.code))))))))
theorem Xv:Tk.bB=true:=by kernel_rfl
noncomputable def Zg:bG:=(cA (cB (cB (cB (cB (cB WF5.code))))))
theorem abd:Zg.bB=true:=by kernel_rfl
noncomputable def WK:bG:=(cA (cB (cB (cB (cB (cB (cB WF5.code)))))))
theorem Zh:WK.bB=true:=by kernel_rfl
noncomputable def anv:bG:=(cL (cK (cB (cA (cB (cB (cB (cB (cB (cB (cB WF5.code)))))))))))
theorem anw:anv.bB=true:=by kernel_rfl
noncomputable def WF8:bC:={ nargs:=2,ntmps:=154,code:=codeOf (aR Tryz.prog 8 [[1,2,4,5,6]]),results:=[(.cell 4 true 23)] }
theorem avM:aR Tryz.prog 8 [[1,2,4,5,6]]=some WF8:=by kernel_rfl
theorem avN:WF8.code.bB=true:=by kernel_rfl
noncomputable def Zi:bG:=(cA (cB (cB (cB WF8.code))))
theorem WL:Zi.bB=true:=by kernel_rfl
noncomputable def afR:bG:=(cL (cK (cB (cA (cB (cB (cB (cB WF8.code))))))))
theorem afS:afR.bB=true:=by kernel_rfl
noncomputable def IL:bG:=(cA (cL (cK (cB (cA (cB (cB (cB (cB WF8.code)))))))))
theorem JG:IL.bB=true:=by kernel_rfl
noncomputable def Rp:bG:=(cA (cB (cB (cB (cB (cB WF8.code))))))
theorem Qz:Rp.bB=true:=by kernel_rfl
noncomputable def NA:bG:=(cA (cA (cB (cB (cB (cB (cB WF8.code)))))))
theorem NC:NA.bB=true:=by kernel_rfl
noncomputable def afT:bC:={ nargs:=1,ntmps:=46,code:=codeOf (aR Tryz.prog 10 []),results:=[(.tmp 2)] }
theorem arH:aR Tryz.prog 10 []=some afT:=by kernel_rfl
theorem arI:afT.code.bB=true:=by kernel_rfl
noncomputable def afU:bG:=(cA (cB (cB afT.code)))
theorem afV:afU.bB=true:=by kernel_rfl
noncomputable def Zj:bG:=(cA (cK (cA (cB (cB afT.code)))))
theorem abe:Zj.bB=true:=by kernel_rfl
noncomputable def WM:bG:=(cA (cA (cK (cA (cB (cB afT.code))))))
theorem Zk:WM.bB=true:=by kernel_rfl
noncomputable def ad1:bC:={ nargs:=1,ntmps:=120,code:=codeOf (aR Tryz.prog 11 [[1,60,61],[1,5],[1,6]]),results:=[(.tmp 2)] }
theorem arJ:aR Tryz.prog 11 [[1,60,61],[1,5],[1,6]]=some ad1:=by kernel_rfl
theorem arK:ad1.code.bB=true:=by kernel_rfl
noncomputable def ake:bG:=(cA (cB ad1.code))
theorem ah9:ake.bB=true:=by kernel_rfl
noncomputable def aia:bG:=(cL (cK (cB (cA (cB (cB ad1.code))))))
theorem ala:aia.bB=true:=by kernel_rfl
noncomputable def aib:bG:=(cL (cK (cB (cA (cB (cB (cB ad1.code)))))))
theorem alb:aib.bB=true:=by kernel_rfl
noncomputable def aic:bG:=(cL (cK (cB (cA (cB (cB (cB (cB ad1.code))))))))
theorem alc:aic.bB=true:=by kernel_rfl
noncomputable def ald:bC:={ nargs:=1,ntmps:=65,code:=codeOf (aR Tryz.prog 12 [[1,3,40,41,42]]),results:=[(.tmp 2)] }
theorem arL:aR Tryz.prog 12 [[1,3,40,41,42]]=some ald:=by kernel_rfl
theorem arM:ald.code.bB=true:=by kernel_rfl
noncomputable def aie:bG:=(cL (cK (cB (cA (cB (cB (cB (cB (cB (cB ald.code))))))))))
theorem ale:aie.bB=true:=by kernel_rfl
noncomputable def anx:bC:={ nargs:=2,ntmps:=52,code:=codeOf (aR Tryz.prog 13 []),results:=[(.tmp 4)] }
theorem arN:aR Tryz.prog 13 []=some anx:=by kernel_rfl
theorem arO:anx.code.bB=true:=by kernel_rfl
noncomputable def aif:bC:={ nargs:=2,ntmps:=121,code:=codeOf (aR Tryz.prog 14 [[2,3,5]]),results:=[(.tmp 4)] }
theorem arP:aR Tryz.prog 14 [[2,3,5]]=some aif:=by kernel_rfl
theorem arQ:aif.code.bB=true:=by kernel_rfl
noncomputable def akf:bG:=(cA (cB aif.code))
theorem aii:akf.bB=true:=by kernel_rfl
noncomputable def aij:bG:=(cL (cK (cB (cA (cB (cB aif.code))))))
theorem alf:aij.bB=true:=by kernel_rfl
noncomputable def anz:bC:={ nargs:=2,ntmps:=14,code:=codeOf (aR Tryz.prog 16 []),results:=[(.tmp 4)] }
theorem arR:aR Tryz.prog 16 []=some anz:=by kernel_rfl
theorem arS:anz.code.bB=true:=by kernel_rfl
noncomputable def aik:bC:={ nargs:=1,ntmps:=43,code:=codeOf (aR Tryz.prog 17 []),results:=[(.cell 2 true 23),(.tmp 3)] }
theorem arT:aR Tryz.prog 17 []=some aik:=by kernel_rfl
theorem arU:aik.code.bB=true:=by kernel_rfl
noncomputable def acG:bG:=(cA (cB (cB (cB aik.code))))
theorem ad2:acG.bB=true:=by kernel_rfl
noncomputable def Zl:bG:=(cA (cA (cB (cB (cB aik.code)))))
theorem abf:Zl.bB=true:=by kernel_rfl
noncomputable def ail:bC:={ nargs:=2,ntmps:=39,code:=codeOf (aR Tryz.prog 20 [[0,5,8,9,10]]),results:=[(.tmp 4)] }
theorem arV:aR Tryz.prog 20 [[0,5,8,9,10]]=some ail:=by kernel_rfl
theorem arW:ail.code.bB=true:=by kernel_rfl
noncomputable def Zm:bG:=(cL (cK (cB (cA (cB (cB ail.code))))))
theorem acH:Zm.bB=true:=by kernel_rfl
noncomputable def z_:bG:=(cA (cB (cK (cA (cB (cB (cL (cK (cB (cA (cB (cB ail.code))))))))))))
theorem CY:z_.bB=true:=by kernel_rfl
noncomputable def alg:bC:={ nargs:=3,ntmps:=43,code:=codeOf (aR Tryz.prog 21 []),results:=[(.tmp 6)] }
theorem arX:aR Tryz.prog 21 []=some alg:=by kernel_rfl
theorem arY:alg.code.bB=true:=by kernel_rfl
noncomputable def akg:bG:=(cA (cB alg.code))
theorem ain:akg.bB=true:=by kernel_rfl
noncomputable def anA:bC:={ nargs:=2,ntmps:=36,code:=codeOf (aR Tryz.prog 22 []),results:=[(.cell 4 true 23),(.tmp 5)] }
theorem arZ:aR Tryz.prog 22 []=some anA:=by kernel_rfl
theorem ar0:anA.code.bB=true:=by kernel_rfl
noncomputable def anB:bC:={ nargs:=0,ntmps:=28,code:=codeOf (aR Tryz.prog 23 []),results:=[(.tmp 0)] }
theorem ar1:aR Tryz.prog 23 []=some anB:=by kernel_rfl
theorem ar2:anB.code.bB=true:=by kernel_rfl
noncomputable def anC:bC:={ nargs:=1,ntmps:=8,code:=codeOf (aR Tryz.prog 24 []),results:=[(.tmp 2)] }
theorem ar3:aR Tryz.prog 24 []=some anC:=by kernel_rfl
theorem ar4:anC.code.bB=true:=by kernel_rfl
noncomputable def alh:bC:={ nargs:=1,ntmps:=29,code:=codeOf (aR Tryz.prog 25 [[3,11,12,13]]),results:=[(.tmp 2)] }
theorem ar5:aR Tryz.prog 25 [[3,11,12,13]]=some alh:=by kernel_rfl
theorem ar6:alh.code.bB=true:=by kernel_rfl
noncomputable def aio:bG:=(cL (cK (cB (cA (cB (cB alh.code))))))
theorem ali:aio.bB=true:=by kernel_rfl
noncomputable def alj:bC:={ nargs:=2,ntmps:=33,code:=codeOf (aR Tryz.prog 27 []),results:=[(.tmp 4)] }
theorem ar7:aR Tryz.prog 27 []=some alj:=by kernel_rfl
theorem ar8:alj.code.bB=true:=by kernel_rfl
noncomputable def akh:bG:=(cA (cB alj.code))
theorem aip:akh.bB=true:=by kernel_rfl
noncomputable def anD:bC:={ nargs:=1,ntmps:=7,code:=codeOf (aR Tryz.prog 32 []),results:=[(.tmp 2)] }
theorem ar9:aR Tryz.prog 32 []=some anD:=by kernel_rfl
theorem asa:anD.code.bB=true:=by kernel_rfl
noncomputable def aiq:bC:={ nargs:=2,ntmps:=27,code:=codeOf (aR Tryz.prog 33 [[0,1,5,6]]),results:=[(.tmp 4)] }
theorem asb:aR Tryz.prog 33 [[0,1,5,6]]=some aiq:=by kernel_rfl
theorem asc:aiq.code.bB=true:=by kernel_rfl
noncomputable def Zn:bG:=(cL (cK (cB (cA (cB (cB aiq.code))))))
theorem acI:Zn.bB=true:=by kernel_rfl
noncomputable def KW:bG:=(cA (cL (cK (cB (cA (cB (cB aiq.code)))))))
theorem LU:KW.bB=true:=by kernel_rfl
noncomputable def anE:bC:={ nargs:=1,ntmps:=66,code:=codeOf (aR Tryz.prog 34 []),results:=[(.cell 2 true 6)] }
theorem ase:aR Tryz.prog 34 []=some anE:=by kernel_rfl
theorem asf:anE.code.bB=true:=by kernel_rfl
noncomputable def anF:bC:={ nargs:=1,ntmps:=9,code:=codeOf (aR Tryz.prog 35 []),results:=[(.tmp 2)] }
theorem asg:aR Tryz.prog 35 []=some anF:=by kernel_rfl
theorem ash:anF.code.bB=true:=by kernel_rfl
noncomputable def air:bC:={ nargs:=4,ntmps:=113,code:=codeOf (aR Tryz.prog 36 [[2,3,8,9,10]]),results:=[(.cell 8 true 4)] }
theorem asi:aR Tryz.prog 36 [[2,3,8,9,10]]=some air:=by kernel_rfl
theorem asj:air.code.bB=true:=by kernel_rfl
noncomputable def Zo:bG:=(cL (cK (cB (cA (cB (cB air.code))))))
theorem acJ:Zo.bB=true:=by kernel_rfl
noncomputable def KX:bG:=(cA (cL (cK (cB (cA (cB (cB air.code)))))))
theorem LV:KX.bB=true:=by kernel_rfl
noncomputable def alk:bC:={ nargs:=1,ntmps:=35,code:=codeOf (aR Tryz.prog 37 []),results:=[(.tmp 2)] }
theorem asl:aR Tryz.prog 37 []=some alk:=by kernel_rfl
theorem asn:alk.code.bB=true:=by kernel_rfl
noncomputable def Zp:bG:=(cA (cK (cB (cA (cB alk.code)))))
theorem abg:Zp.bB=true:=by kernel_rfl
noncomputable def ais:bC:={ nargs:=2,ntmps:=41,code:=codeOf (aR Tryz.prog 38 [[1,5,6],[1,5,6,7]]),results:=[(.tmp 4)] }
theorem aso:aR Tryz.prog 38 [[1,5,6],[1,5,6,7]]=some ais:=by kernel_rfl
theorem asq:ais.code.bB=true:=by kernel_rfl
noncomputable def Zq:bG:=(cL (cK (cB (cA (cB (cB ais.code))))))
theorem acK:Zq.bB=true:=by kernel_rfl
noncomputable def Zr:bG:=(cL (cK (cA (cB (cB (cK (cA (cB (cL (cK (cB (cA (cB (cB ais.code))))))))))))))
theorem acL:Zr.bB=true:=by kernel_rfl
noncomputable def anG:bC:={ nargs:=2,ntmps:=17,code:=codeOf (aR Tryz.prog 40 []),results:=[(.tmp 4)] }
theorem asr:aR Tryz.prog 40 []=some anG:=by kernel_rfl
theorem asu:anG.code.bB=true:=by kernel_rfl
noncomputable def anH:bC:={ nargs:=2,ntmps:=29,code:=codeOf (aR Tryz.prog 41 []),results:=[(.tmp 4)] }
theorem asv:aR Tryz.prog 41 []=some anH:=by kernel_rfl
theorem asw:anH.code.bB=true:=by kernel_rfl
noncomputable def ait:bC:={ nargs:=2,ntmps:=79,code:=codeOf (aR Tryz.prog 42 [[3,5,6],[3,5,7]]),results:=[(.tmp 4)] }
theorem asx:aR Tryz.prog 42 [[3,5,6],[3,5,7]]=some ait:=by kernel_rfl
theorem asy:ait.code.bB=true:=by kernel_rfl
noncomputable def aiu:bG:=(cL (cK (cB (cA (cB (cB (cB ait.code)))))))
theorem alm:aiu.bB=true:=by kernel_rfl
noncomputable def aiv:bG:=(cL (cK (cB (cA (cB (cB (cB (cB (cB ait.code)))))))))
theorem aln:aiv.bB=true:=by kernel_rfl
noncomputable def anI:bC:={ nargs:=1,ntmps:=6,code:=codeOf (aR Tryz.prog 43 []),results:=[(.tmp 2)] }
theorem asz:aR Tryz.prog 43 []=some anI:=by kernel_rfl
theorem asA:anI.code.bB=true:=by kernel_rfl
noncomputable def anJ:bC:={ nargs:=1,ntmps:=9,code:=codeOf (aR Tryz.prog 44 []),results:=[(.tmp 2)] }
theorem asB:aR Tryz.prog 44 []=some anJ:=by kernel_rfl
theorem asC:anJ.code.bB=true:=by kernel_rfl
noncomputable def anK:bC:={ nargs:=2,ntmps:=9,code:=codeOf (aR Tryz.prog 45 []),results:=[(.tmp 4)] }
theorem asD:aR Tryz.prog 45 []=some anK:=by kernel_rfl
theorem asE:anK.code.bB=true:=by kernel_rfl
noncomputable def anL:bC:={ nargs:=1,ntmps:=20,code:=codeOf (aR Tryz.prog 46 []),results:=[(.tmp 2)] }
theorem asF:aR Tryz.prog 46 []=some anL:=by kernel_rfl
theorem asG:anL.code.bB=true:=by kernel_rfl
noncomputable def anM:bC:={ nargs:=2,ntmps:=9,code:=codeOf (aR Tryz.prog 47 []),results:=[(.tmp 4)] }
theorem asH:aR Tryz.prog 47 []=some anM:=by kernel_rfl
theorem asI:anM.code.bB=true:=by kernel_rfl
noncomputable def anN:bC:={ nargs:=1,ntmps:=29,code:=codeOf (aR Tryz.prog 48 []),results:=[(.tmp 2)] }
theorem asJ:aR Tryz.prog 48 []=some anN:=by kernel_rfl
theorem asK:anN.code.bB=true:=by kernel_rfl
noncomputable def anO:bC:={ nargs:=1,ntmps:=29,code:=codeOf (aR Tryz.prog 49 []),results:=[(.tmp 2)] }
theorem asL:aR Tryz.prog 49 []=some anO:=by kernel_rfl
theorem asM:anO.code.bB=true:=by kernel_rfl
noncomputable def anP:bC:={ nargs:=1,ntmps:=17,code:=codeOf (aR Tryz.prog 50 []),results:=[(.tmp 2)] }
theorem asN:aR Tryz.prog 50 []=some anP:=by kernel_rfl
theorem asO:anP.code.bB=true:=by kernel_rfl
noncomputable def anQ:bC:={ nargs:=1,ntmps:=9,code:=codeOf (aR Tryz.prog 51 []),results:=[(.tmp 2)] }
theorem asP:aR Tryz.prog 51 []=some anQ:=by kernel_rfl
theorem asQ:anQ.code.bB=true:=by kernel_rfl
noncomputable def anR:bC:={ nargs:=1,ntmps:=17,code:=codeOf (aR Tryz.prog 52 []),results:=[(.tmp 2)] }
theorem asR:aR Tryz.prog 52 []=some anR:=by kernel_rfl
theorem asS:anR.code.bB=true:=by kernel_rfl
noncomputable def anS:bC:={ nargs:=1,ntmps:=9,code:=codeOf (aR Tryz.prog 53 []),results:=[(.tmp 2)] }
theorem asT:aR Tryz.prog 53 []=some anS:=by kernel_rfl
theorem asU:anS.code.bB=true:=by kernel_rfl
noncomputable def anT:bC:={ nargs:=1,ntmps:=9,code:=codeOf (aR Tryz.prog 54 []),results:=[(.tmp 2)] }
theorem asV:aR Tryz.prog 54 []=some anT:=by kernel_rfl
theorem asW:anT.code.bB=true:=by kernel_rfl
noncomputable def afW:bC:={ nargs:=2,ntmps:=41,code:=codeOf (aR Tryz.prog 55 [[5,10,11,12],[5,7,10,11,12]]),results:=[(.tmp 4)] }
theorem asX:aR Tryz.prog 55 [[5,10,11,12],[5,7,10,11,12]]=some afW:=by kernel_rfl
theorem asY:afW.code.bB=true:=by kernel_rfl
noncomputable def Zt:bG:=(cL (cK (cB (cA (cB (cB afW.code))))))
theorem acM:Zt.bB=true:=by kernel_rfl
noncomputable def Aa:bG:=(cA (cB (cK (cA (cB (cB (cL (cK (cB (cA (cB (cB afW.code))))))))))))
theorem CZ:Aa.bB=true:=by kernel_rfl
noncomputable def Zu:bG:=(cL (cK (cA (cB (cB (cK (cA (cB (cB (cL (cK (cB (cA (cB (cB afW.code)))))))))))))))
theorem acN:Zu.bB=true:=by kernel_rfl
noncomputable def anU:bC:={ nargs:=1,ntmps:=4,code:=codeOf (aR Tryz.prog 56 []),results:=[(.tmp 2)] }
theorem asZ:aR Tryz.prog 56 []=some anU:=by kernel_rfl
theorem as0:anU.code.bB=true:=by kernel_rfl
noncomputable def anV:bC:={ nargs:=2,ntmps:=17,code:=codeOf (aR Tryz.prog 57 []),results:=[(.tmp 4)] }
theorem as1:aR Tryz.prog 57 []=some anV:=by kernel_rfl
theorem as2:anV.code.bB=true:=by kernel_rfl
noncomputable def anW:bC:={ nargs:=2,ntmps:=29,code:=codeOf (aR Tryz.prog 58 []),results:=[(.tmp 4)] }
theorem as3:aR Tryz.prog 58 []=some anW:=by kernel_rfl
theorem as4:anW.code.bB=true:=by kernel_rfl
noncomputable def aiw:bC:={ nargs:=2,ntmps:=63,code:=codeOf (aR Tryz.prog 59 [[3,5,24,25,26],[5,45,46,47]]),results:=[(.tmp 4)] }
theorem as5:aR Tryz.prog 59 [[3,5,24,25,26],[5,45,46,47]]=some aiw:=by kernel_rfl
theorem as6:aiw.code.bB=true:=by kernel_rfl
noncomputable def aix:bG:=(cL (cK (cB (cA (cB (cB (cB aiw.code)))))))
theorem alp:aix.bB=true:=by kernel_rfl
noncomputable def aiy:bG:=(cL (cK (cB (cA (cB (cB (cB (cB (cB aiw.code)))))))))
theorem alq:aiy.bB=true:=by kernel_rfl
noncomputable def alr:bC:={ nargs:=2,ntmps:=26,code:=codeOf (aR Tryz.prog 60 [[0,1,12,13]]),results:=[(.tmp 4)] }
theorem as7:aR Tryz.prog 60 [[0,1,12,13]]=some alr:=by kernel_rfl
theorem as8:alr.code.bB=true:=by kernel_rfl
noncomputable def aiz:bG:=(cL (cK (cB (cA (cB (cB alr.code))))))
theorem als:aiz.bB=true:=by kernel_rfl
noncomputable def alu:bC:={ nargs:=2,ntmps:=26,code:=codeOf (aR Tryz.prog 61 [[0,1,12,13]]),results:=[(.tmp 4)] }
theorem as9:aR Tryz.prog 61 [[0,1,12,13]]=some alu:=by kernel_rfl
theorem ata:alu.code.bB=true:=by kernel_rfl
noncomputable def aiA:bG:=(cL (cK (cB (cA (cB (cB alu.code))))))
theorem alv:aiA.bB=true:=by kernel_rfl
noncomputable def anX:bC:={ nargs:=2,ntmps:=31,code:=codeOf (aR Tryz.prog 62 []),results:=[(.tmp 4)] }
theorem atb:aR Tryz.prog 62 []=some anX:=by kernel_rfl
theorem atc:anX.code.bB=true:=by kernel_rfl
noncomputable def alx:bC:={ nargs:=2,ntmps:=26,code:=codeOf (aR Tryz.prog 63 [[0,1,5]]),results:=[(.tmp 4)] }
theorem atd:aR Tryz.prog 63 [[0,1,5]]=some alx:=by kernel_rfl
theorem ate:alx.code.bB=true:=by kernel_rfl
noncomputable def aiB:bG:=(cL (cK (cB (cA (cB (cB alx.code))))))
theorem aly:aiB.bB=true:=by kernel_rfl
noncomputable def afX:bC:={ nargs:=2,ntmps:=73,code:=codeOf (aR Tryz.prog 64 [[2,3,5],[2,3,6]]),results:=[(.tmp 4)] }
theorem atf:aR Tryz.prog 64 [[2,3,5],[2,3,6]]=some afX:=by kernel_rfl
theorem atg:afX.code.bB=true:=by kernel_rfl
noncomputable def aki:bG:=(cA (cB afX.code))
theorem aiC:aki.bB=true:=by kernel_rfl
noncomputable def aiD:bG:=(cL (cK (cB (cA (cB (cB afX.code))))))
theorem alz:aiD.bB=true:=by kernel_rfl
noncomputable def aiE:bG:=(cL (cK (cB (cA (cB (cB (cB afX.code)))))))
theorem alA:aiE.bB=true:=by kernel_rfl
noncomputable def afY:bC:={ nargs:=1,ntmps:=128,code:=codeOf (aR Tryz.prog 65 [[0,2,91,92]]),results:=[(.cell 2 true 23)] }
theorem ath:aR Tryz.prog 65 [[0,2,91,92]]=some afY:=by kernel_rfl
theorem ati:afY.code.bB=true:=by kernel_rfl
noncomputable def Zv:bG:=(cA (cB (cB (cB (cB afY.code)))))
theorem abh:Zv.bB=true:=by kernel_rfl
noncomputable def WO:bG:=(cA (cB (cB (cB (cB (cB afY.code))))))
theorem Zw:WO.bB=true:=by kernel_rfl
noncomputable def aiF:bG:=(cL (cK (cB (cA (cB (cB (cB (cB (cB (cB (cB afY.code)))))))))))
theorem alB:aiF.bB=true:=by kernel_rfl
noncomputable def anY:bC:={ nargs:=1,ntmps:=29,code:=codeOf (aR Tryz.prog 66 []),results:=[(.tmp 2)] }
theorem atj:aR Tryz.prog 66 []=some anY:=by kernel_rfl
theorem atl:anY.code.bB=true:=by kernel_rfl
noncomputable def anZ:bC:={ nargs:=1,ntmps:=31,code:=codeOf (aR Tryz.prog 68 []),results:=[(.cell 2 true 6)] }
theorem atm:aR Tryz.prog 68 []=some anZ:=by kernel_rfl
theorem atn:anZ.code.bB=true:=by kernel_rfl
noncomputable def an0:bC:={ nargs:=1,ntmps:=15,code:=codeOf (aR Tryz.prog 69 []),results:=[(.cell 2 true 2)] }
theorem ato:aR Tryz.prog 69 []=some an0:=by kernel_rfl
theorem atp:an0.code.bB=true:=by kernel_rfl
noncomputable def alC:bC:={ nargs:=2,ntmps:=19,code:=codeOf (aR Tryz.prog 70 []),results:=[(.tmp 4)] }
theorem atq:aR Tryz.prog 70 []=some alC:=by kernel_rfl
theorem atr:alC.code.bB=true:=by kernel_rfl
noncomputable def afZ:bG:=(cA (cB (cB alC.code)))
theorem af0:afZ.bB=true:=by kernel_rfl
noncomputable def ad3:bC:={ nargs:=1,ntmps:=65,code:=codeOf (aR Tryz.prog 71 [[0,2,3,4],[0,2,3,5]]),results:=[(.cell 2 true 4)] }
theorem att:aR Tryz.prog 71 [[0,2,3,4],[0,2,3,5]]=some ad3:=by kernel_rfl
theorem atu:ad3.code.bB=true:=by kernel_rfl
noncomputable def aiG:bG:=(cL (cK (cB (cA (cB (cB ad3.code))))))
theorem alD:aiG.bB=true:=by kernel_rfl
noncomputable def Tn:bG:=(cA (cL (cK (cB (cA (cB (cB ad3.code)))))))
theorem Xw:Tn.bB=true:=by kernel_rfl
noncomputable def aiH:bG:=(cL (cK (cB (cA (cB (cB (cB ad3.code)))))))
theorem alE:aiH.bB=true:=by kernel_rfl
noncomputable def QA:bG:=(cA (cL (cK (cB (cA (cB (cB (cB ad3.code))))))))
theorem Vg:QA.bB=true:=by kernel_rfl
noncomputable def an1:bC:={ nargs:=2,ntmps:=16,code:=codeOf (aR Tryz.prog 72 []),results:=[(.tmp 4)] }
theorem atv:aR Tryz.prog 72 []=some an1:=by kernel_rfl
theorem atw:an1.code.bB=true:=by kernel_rfl
noncomputable def an2:bC:={ nargs:=3,ntmps:=33,code:=codeOf (aR Tryz.prog 73 []),results:=[(.tmp 6)] }
theorem atx:aR Tryz.prog 73 []=some an2:=by kernel_rfl
theorem aty:an2.code.bB=true:=by kernel_rfl
noncomputable def an3:bC:={ nargs:=1,ntmps:=9,code:=codeOf (aR Tryz.prog 74 []),results:=[(.tmp 2)] }
theorem atz:aR Tryz.prog 74 []=some an3:=by kernel_rfl
theorem atA:an3.code.bB=true:=by kernel_rfl
noncomputable def an4:bC:={ nargs:=1,ntmps:=28,code:=codeOf (aR Tryz.prog 76 []),results:=[(.cell 2 true 5)] }
theorem atB:aR Tryz.prog 76 []=some an4:=by kernel_rfl
theorem atC:an4.code.bB=true:=by kernel_rfl
noncomputable def aiI:bC:={ nargs:=4,ntmps:=34,code:=codeOf (aR Tryz.prog 77 []),results:=[(.cell 8 true 4)] }
theorem atD:aR Tryz.prog 77 []=some aiI:=by kernel_rfl
theorem atE:aiI.code.bB=true:=by kernel_rfl
noncomputable def af2:bG:=(cA (cB (cB aiI.code)))
theorem af3:af2.bB=true:=by kernel_rfl
noncomputable def acO:bG:=(cA (cA (cB (cB aiI.code))))
theorem ad4:acO.bB=true:=by kernel_rfl
noncomputable def an5:bC:={ nargs:=2,ntmps:=13,code:=codeOf (aR Tryz.prog 78 []),results:=[(.tmp 4)] }
theorem atF:aR Tryz.prog 78 []=some an5:=by kernel_rfl
theorem atG:an5.code.bB=true:=by kernel_rfl
noncomputable def an6:bC:={ nargs:=1,ntmps:=6,code:=codeOf (aR Tryz.prog 79 []),results:=[(.tmp 2)] }
theorem atH:aR Tryz.prog 79 []=some an6:=by kernel_rfl
theorem atJ:an6.code.bB=true:=by kernel_rfl
noncomputable def an7:bC:={ nargs:=1,ntmps:=26,code:=codeOf (aR Tryz.prog 80 []),results:=[(.tmp 2)] }
theorem atK:aR Tryz.prog 80 []=some an7:=by kernel_rfl
theorem atL:an7.code.bB=true:=by kernel_rfl
noncomputable def an8:bC:={ nargs:=1,ntmps:=15,code:=codeOf (aR Tryz.prog 81 []),results:=[(.tmp 2)] }
theorem atM:aR Tryz.prog 81 []=some an8:=by kernel_rfl
theorem atN:an8.code.bB=true:=by kernel_rfl
noncomputable def an9:bC:={ nargs:=2,ntmps:=54,code:=codeOf (aR Tryz.prog 82 []),results:=[(.cell 4 true 2),(.tmp 5)] }
theorem atO:aR Tryz.prog 82 []=some an9:=by kernel_rfl
theorem atP:an9.code.bB=true:=by kernel_rfl
noncomputable def aoa:bC:={ nargs:=1,ntmps:=26,code:=codeOf (aR Tryz.prog 83 []),results:=[(.cell 2 true 4)] }
theorem atQ:aR Tryz.prog 83 []=some aoa:=by kernel_rfl
theorem atS:aoa.code.bB=true:=by kernel_rfl
noncomputable def aob:bC:={ nargs:=1,ntmps:=7,code:=codeOf (aR Tryz.prog 84 []),results:=[(.tmp 2)] }
theorem atT:aR Tryz.prog 84 []=some aob:=by kernel_rfl
theorem atU:aob.code.bB=true:=by kernel_rfl
noncomputable def alF:bC:={ nargs:=2,ntmps:=30,code:=codeOf (aR Tryz.prog 85 [[1,5,6]]),results:=[(.tmp 4)] }
theorem atV:aR Tryz.prog 85 [[1,5,6]]=some alF:=by kernel_rfl
theorem atW:alF.code.bB=true:=by kernel_rfl
noncomputable def aiJ:bG:=(cL (cK (cB (cA (cB (cB alF.code))))))
theorem alG:aiJ.bB=true:=by kernel_rfl
noncomputable def alH:bC:={ nargs:=2,ntmps:=19,code:=codeOf (aR Tryz.prog 86 [[0,1,7,8]]),results:=[(.tmp 4)] }
theorem atX:aR Tryz.prog 86 [[0,1,7,8]]=some alH:=by kernel_rfl
theorem atY:alH.code.bB=true:=by kernel_rfl
noncomputable def aiK:bG:=(cL (cK (cB (cA (cB alH.code)))))
theorem alI:aiK.bB=true:=by kernel_rfl
noncomputable def alJ:bC:={ nargs:=2,ntmps:=19,code:=codeOf (aR Tryz.prog 87 [[0,1,7,8]]),results:=[(.tmp 4)] }
theorem atZ:aR Tryz.prog 87 [[0,1,7,8]]=some alJ:=by kernel_rfl
theorem at0:alJ.code.bB=true:=by kernel_rfl
noncomputable def aiL:bG:=(cL (cK (cB (cA (cB alJ.code)))))
theorem alK:aiL.bB=true:=by kernel_rfl
noncomputable def ad5:bC:={ nargs:=1,ntmps:=53,code:=codeOf (aR Tryz.prog 88 []),results:=[(.tmp 2)] }
theorem at1:aR Tryz.prog 88 []=some ad5:=by kernel_rfl
theorem at5:ad5.code.bB=true:=by kernel_rfl
noncomputable def akj:bG:=(cA (cB ad5.code))
theorem aiM:akj.bB=true:=by kernel_rfl
noncomputable def af4:bG:=(cA (cB (cB ad5.code)))
theorem af5:af4.bB=true:=by kernel_rfl
noncomputable def Zx:bG:=(cA (cK (cA (cB (cB ad5.code)))))
theorem abj:Zx.bB=true:=by kernel_rfl
noncomputable def WQ:bG:=(cA (cA (cK (cA (cB (cB ad5.code))))))
theorem Zy:WQ.bB=true:=by kernel_rfl
noncomputable def aoc:bC:={ nargs:=1,ntmps:=23,code:=codeOf (aR Tryz.prog 89 []),results:=[(.tmp 2)] }
theorem at6:aR Tryz.prog 89 []=some aoc:=by kernel_rfl
theorem at7:aoc.code.bB=true:=by kernel_rfl
noncomputable def aiN:bC:={ nargs:=1,ntmps:=44,code:=codeOf (aR Tryz.prog 90 []),results:=[(.tmp 2)] }
theorem aua:aR Tryz.prog 90 []=some aiN:=by kernel_rfl
theorem aub:aiN.code.bB=true:=by kernel_rfl
noncomputable def akk:bG:=(cA (cB aiN.code))
theorem aiO:akk.bB=true:=by kernel_rfl
noncomputable def acP:bG:=(cA (cB (cB (cB aiN.code))))
theorem ad6:acP.bB=true:=by kernel_rfl
noncomputable def aod:bC:={ nargs:=1,ntmps:=23,code:=codeOf (aR Tryz.prog 91 []),results:=[(.tmp 2)] }
theorem auc:aR Tryz.prog 91 []=some aod:=by kernel_rfl
theorem aud:aod.code.bB=true:=by kernel_rfl
noncomputable def ad7:bC:={ nargs:=1,ntmps:=113,code:=codeOf (aR Tryz.prog 92 [[1,3],[1,4]]),results:=[(.tmp 2)] }
theorem aue:aR Tryz.prog 92 [[1,3],[1,4]]=some ad7:=by kernel_rfl
theorem auf:ad7.code.bB=true:=by kernel_rfl
noncomputable def akl:bG:=(cA (cB ad7.code))
theorem aiP:akl.bB=true:=by kernel_rfl
noncomputable def aiQ:bG:=(cL (cK (cB (cA (cB (cB ad7.code))))))
theorem alL:aiQ.bB=true:=by kernel_rfl
noncomputable def aiR:bG:=(cL (cK (cB (cA (cB (cB (cB ad7.code)))))))
theorem alM:aiR.bB=true:=by kernel_rfl
noncomputable def Hw:bG:=(cA (cB (cK (cA (cB (cL (cK (cB (cA (cB (cB (cB ad7.code))))))))))))
theorem ND:Hw.bB=true:=by kernel_rfl
noncomputable def aoe:bC:={ nargs:=1,ntmps:=8,code:=codeOf (aR Tryz.prog 93 []),results:=[(.tmp 2)] }
theorem aug:aR Tryz.prog 93 []=some aoe:=by kernel_rfl
theorem auh:aoe.code.bB=true:=by kernel_rfl
noncomputable def aof:bC:={ nargs:=1,ntmps:=9,code:=codeOf (aR Tryz.prog 94 []),results:=[(.tmp 2)] }
theorem aui:aR Tryz.prog 94 []=some aof:=by kernel_rfl
theorem auj:aof.code.bB=true:=by kernel_rfl
noncomputable def alN:bC:={ nargs:=2,ntmps:=26,code:=codeOf (aR Tryz.prog 95 [[5,10,11,12]]),results:=[(.tmp 4)] }
theorem auk:aR Tryz.prog 95 [[5,10,11,12]]=some alN:=by kernel_rfl
theorem aul:alN.code.bB=true:=by kernel_rfl
noncomputable def aiS:bG:=(cL (cK (cB (cA (cB (cB alN.code))))))
theorem alO:aiS.bB=true:=by kernel_rfl
noncomputable def alP:bC:={ nargs:=2,ntmps:=26,code:=codeOf (aR Tryz.prog 96 [[0,1,12,13]]),results:=[(.tmp 4)] }
theorem aum:aR Tryz.prog 96 [[0,1,12,13]]=some alP:=by kernel_rfl
theorem aun:alP.code.bB=true:=by kernel_rfl
noncomputable def aiT:bG:=(cL (cK (cB (cA (cB (cB alP.code))))))
theorem alQ:aiT.bB=true:=by kernel_rfl
noncomputable def alR:bC:={ nargs:=2,ntmps:=26,code:=codeOf (aR Tryz.prog 97 [[0,1,12,13]]),results:=[(.tmp 4)] }
theorem auo:aR Tryz.prog 97 [[0,1,12,13]]=some alR:=by kernel_rfl
theorem aup:alR.code.bB=true:=by kernel_rfl
noncomputable def aiU:bG:=(cL (cK (cB (cA (cB (cB alR.code))))))
theorem alS:aiU.bB=true:=by kernel_rfl
noncomputable def aog:bC:={ nargs:=2,ntmps:=37,code:=codeOf (aR Tryz.prog 98 []),results:=[(.tmp 4)] }
theorem auq:aR Tryz.prog 98 []=some aog:=by kernel_rfl
theorem aur:aog.code.bB=true:=by kernel_rfl
noncomputable def aoh:bC:={ nargs:=2,ntmps:=17,code:=codeOf (aR Tryz.prog 99 []),results:=[(.tmp 4)] }
theorem aus:aR Tryz.prog 99 []=some aoh:=by kernel_rfl
theorem aut:aoh.code.bB=true:=by kernel_rfl
noncomputable def af6:bC:={ nargs:=1,ntmps:=53,code:=codeOf (aR Tryz.prog 100 []),results:=[(.cell 2 true 6),(.tmp 3),(.tmp 4)] }
theorem aoi:aR Tryz.prog 100 []=some af6:=by kernel_rfl
theorem aoj:af6.code.bB=true:=by kernel_rfl
noncomputable def af7:bC:={ nargs:=1,ntmps:=36,code:=codeOf (aR Tryz.prog 101 []),results:=[(.cell 2 true 2),(.tmp 3),(.tmp 4)] }
theorem aok:aR Tryz.prog 101 []=some af7:=by kernel_rfl
theorem aol:af7.code.bB=true:=by kernel_rfl
noncomputable def af8:bC:={ nargs:=1,ntmps:=9,code:=codeOf (aR Tryz.prog 102 []),results:=[(.tmp 2)] }
theorem aom:aR Tryz.prog 102 []=some af8:=by kernel_rfl
theorem aon:af8.code.bB=true:=by kernel_rfl
noncomputable def af9:bC:={ nargs:=1,ntmps:=22,code:=codeOf (aR Tryz.prog 103 []),results:=[(.cell 2 true 5)] }
theorem aoo:aR Tryz.prog 103 []=some af9:=by kernel_rfl
theorem aoq:af9.code.bB=true:=by kernel_rfl
noncomputable def aga:bC:={ nargs:=1,ntmps:=9,code:=codeOf (aR Tryz.prog 104 []),results:=[(.tmp 2)] }
theorem aor:aR Tryz.prog 104 []=some aga:=by kernel_rfl
theorem aos:aga.code.bB=true:=by kernel_rfl
noncomputable def Tp:bC:={ nargs:=1,ntmps:=80,code:=codeOf (aR Tryz.prog 105 [[2,5,21,22],[2,5,33,34]]),results:=[(.cell 2 true 4),(.tmp 3),(.tmp 4)] }
theorem aot:aR Tryz.prog 105 [[2,5,21,22],[2,5,33,34]]=some Tp:=by kernel_rfl
theorem aou:Tp.code.bB=true:=by kernel_rfl
noncomputable def ad8:bG:=(cL (cK (cB (cA (cB (cB (cB (cB Tp.code))))))))
theorem aiV:ad8.bB=true:=by kernel_rfl
noncomputable def ad9:bG:=(cL (cK (cB (cA (cB (cB (cB (cB (cB Tp.code)))))))))
theorem aiW:ad9.bB=true:=by kernel_rfl
noncomputable def QB:bG:=(cA (cB (cB (cB (cB (cB (cB Tp.code)))))))
theorem Vh:QB.bB=true:=by kernel_rfl
noncomputable def NG:bG:=(cA (cA (cB (cB (cB (cB (cB (cB Tp.code))))))))
theorem Tq:NG.bB=true:=by kernel_rfl
noncomputable def Tt:bC:={ nargs:=1,ntmps:=56,code:=codeOf (aR Tryz.prog 106 [[0,5,6]]),results:=[(.tmp 2),(.tmp 3),(.tmp 4)] }
theorem aov:aR Tryz.prog 106 [[0,5,6]]=some Tt:=by kernel_rfl
theorem aow:Tt.code.bB=true:=by kernel_rfl
noncomputable def aea:bG:=(cL (cK (cB (cA (cB (cB Tt.code))))))
theorem aiX:aea.bB=true:=by kernel_rfl
noncomputable def Hy:bG:=(cA (cB (cK (cA (cB (cL (cK (cB (cA (cB (cB Tt.code)))))))))))
theorem NH:Hy.bB=true:=by kernel_rfl
noncomputable def FD:bG:=(cA (cA (cB (cK (cA (cB (cL (cK (cB (cA (cB (cB Tt.code))))))))))))
theorem MO:FD.bB=true:=by kernel_rfl
noncomputable def C8:bG:=(cA (cB (cB (cB (cB (cK (cA (cB (cL (cK (cB (cA (cB (cB Tt.code))))))))))))))
theorem JH:C8.bB=true:=by kernel_rfl
noncomputable def agb:bC:={ nargs:=1,ntmps:=29,code:=codeOf (aR Tryz.prog 107 []),results:=[(.tmp 2)] }
theorem aox:aR Tryz.prog 107 []=some agb:=by kernel_rfl
theorem aoy:agb.code.bB=true:=by kernel_rfl
noncomputable def agc:bC:={ nargs:=2,ntmps:=13,code:=codeOf (aR Tryz.prog 108 []),results:=[] }
theorem aoz:aR Tryz.prog 108 []=some agc:=by kernel_rfl
theorem aoA:agc.code.bB=true:=by kernel_rfl
noncomputable def agd:bC:={ nargs:=1,ntmps:=7,code:=codeOf (aR Tryz.prog 109 []),results:=[(.tmp 2)] }
theorem aoB:aR Tryz.prog 109 []=some agd:=by kernel_rfl
theorem aoC:agd.code.bB=true:=by kernel_rfl
noncomputable def acQ:bC:={ nargs:=1,ntmps:=58,code:=codeOf (aR Tryz.prog 110 []),results:=[(.tmp 2)] }
theorem aoD:aR Tryz.prog 110 []=some acQ:=by kernel_rfl
theorem aoE:acQ.code.bB=true:=by kernel_rfl
noncomputable def agf:bG:=(cA (cB acQ.code))
theorem agh:agf.bB=true:=by kernel_rfl
noncomputable def acR:bC:={ nargs:=1,ntmps:=25,code:=codeOf (aR Tryz.prog 111 [[0,2,3,4]]),results:=[(.cell 2 true 1)] }
theorem aoF:aR Tryz.prog 111 [[0,2,3,4]]=some acR:=by kernel_rfl
theorem aoG:acR.code.bB=true:=by kernel_rfl
noncomputable def aeb:bG:=(cL (cK (cB (cA (cB (cB acR.code))))))
theorem aiY:aeb.bB=true:=by kernel_rfl
noncomputable def acS:bC:={ nargs:=1,ntmps:=18,code:=codeOf (aR Tryz.prog 112 [[0,2,3,4]]),results:=[(.cell 2 true 1)] }
theorem aoH:aR Tryz.prog 112 [[0,2,3,4]]=some acS:=by kernel_rfl
theorem aoI:acS.code.bB=true:=by kernel_rfl
noncomputable def aec:bG:=(cL (cK (cB (cA (cB (cB acS.code))))))
theorem aiZ:aec.bB=true:=by kernel_rfl
noncomputable def acT:bC:={ nargs:=2,ntmps:=34,code:=codeOf (aR Tryz.prog 113 [[0,1,4,6]]),results:=[(.cell 4 true 4),(.tmp 5)] }
theorem aoJ:aR Tryz.prog 113 [[0,1,4,6]]=some acT:=by kernel_rfl
theorem aoK:acT.code.bB=true:=by kernel_rfl
noncomputable def Tv:bG:=(cL (cK (cB (cA (cB acT.code)))))
theorem Zz:Tv.bB=true:=by kernel_rfl
noncomputable def ZA:bC:={ nargs:=2,ntmps:=147,code:=codeOf (aR Tryz.prog 114 []),results:=[(.cell 4 true 2)] }
theorem aoL:aR Tryz.prog 114 []=some ZA:=by kernel_rfl
theorem aoM:ZA.code.bB=true:=by kernel_rfl
noncomputable def Ab:bG:=(cA (cT (cB (cF (cB (cK (cB (cA (cB (cB (cB ZA.code)))))))))))
theorem C9:Ab.bB=true:=by kernel_rfl
noncomputable def uM:bG:=(cA (cB (cB (cB (cT (cB (cF (cB (cK (cB (cA (cB (cB (cB ZA.code))))))))))))))
theorem zB:uM.bB=true:=by kernel_rfl
noncomputable def QC:bC:={ nargs:=2,ntmps:=96,code:=codeOf (aR Tryz.prog 115 [[0,3,7,8,9]]),results:=[(.tmp 4)] }
theorem aoN:aR Tryz.prog 115 [[0,3,7,8,9]]=some QC:=by kernel_rfl
theorem aoO:QC.code.bB=true:=by kernel_rfl
noncomputable def Vi:bG:=(cA (cB (cB QC.code)))
theorem Tx:Vi.bB=true:=by kernel_rfl
noncomputable def Tz:bG:=(cL (cK (cB (cA (cB (cB (cB (cB (cB QC.code)))))))))
theorem ZB:Tz.bB=true:=by kernel_rfl
noncomputable def xB:bG:=(cA (cK (cA (cB (cL (cK (cB (cA (cB (cB (cB (cB (cB QC.code)))))))))))))
theorem Ac:xB.bB=true:=by kernel_rfl
noncomputable def uN:bG:=(cA (cA (cK (cA (cB (cL (cK (cB (cA (cB (cB (cB (cB (cB QC.code))))))))))))))
theorem zC:uN.bB=true:=by kernel_rfl
noncomputable def IQ:bG:=(cA (cB (cB (cB (cB (cB (cB QC.code)))))))
theorem JI:IQ.bB=true:=by kernel_rfl
noncomputable def agi:bC:={ nargs:=1,ntmps:=14,code:=codeOf (aR Tryz.prog 116 []),results:=[(.cell 2 true 19)] }
theorem aoP:aR Tryz.prog 116 []=some agi:=by kernel_rfl
theorem aoQ:agi.code.bB=true:=by kernel_rfl
noncomputable def agj:bC:={ nargs:=1,ntmps:=9,code:=codeOf (aR Tryz.prog 117 []),results:=[(.tmp 2)] }
theorem aoR:aR Tryz.prog 117 []=some agj:=by kernel_rfl
theorem aoS:agj.code.bB=true:=by kernel_rfl
noncomputable def acU:bC:={ nargs:=1,ntmps:=23,code:=codeOf (aR Tryz.prog 118 [[3,9,10]]),results:=[(.tmp 2)] }
theorem aoT:aR Tryz.prog 118 [[3,9,10]]=some acU:=by kernel_rfl
theorem aoU:acU.code.bB=true:=by kernel_rfl
noncomputable def aed:bG:=(cL (cK (cB (cA (cB (cB acU.code))))))
theorem ai0:aed.bB=true:=by kernel_rfl
noncomputable def agk:bC:={ nargs:=2,ntmps:=9,code:=codeOf (aR Tryz.prog 119 []),results:=[(.tmp 4)] }
theorem aoV:aR Tryz.prog 119 []=some agk:=by kernel_rfl
theorem aoW:agk.code.bB=true:=by kernel_rfl
noncomputable def agl:bC:={ nargs:=1,ntmps:=6,code:=codeOf (aR Tryz.prog 120 []),results:=[(.tmp 2)] }
theorem aoX:aR Tryz.prog 120 []=some agl:=by kernel_rfl
theorem aoY:agl.code.bB=true:=by kernel_rfl
noncomputable def acV:bC:={ nargs:=1,ntmps:=21,code:=codeOf (aR Tryz.prog 121 []),results:=[(.tmp 2)] }
theorem aoZ:aR Tryz.prog 121 []=some acV:=by kernel_rfl
theorem ao0:acV.code.bB=true:=by kernel_rfl
noncomputable def WR:bG:=(cA (cK (cB (cA (cB acV.code)))))
theorem ZC:WR.bB=true:=by kernel_rfl
noncomputable def acW:bC:={ nargs:=2,ntmps:=40,code:=codeOf (aR Tryz.prog 122 [[0,4,7,12,13]]),results:=[(.tmp 4),(.tmp 5),(.tmp 6)] }
theorem ao1:aR Tryz.prog 122 [[0,4,7,12,13]]=some acW:=by kernel_rfl
theorem ao2:acW.code.bB=true:=by kernel_rfl
noncomputable def aee:bG:=(cL (cK (cB (cA (cB (cB acW.code))))))
theorem ai1:aee.bB=true:=by kernel_rfl
noncomputable def acX:bC:={ nargs:=2,ntmps:=27,code:=codeOf (aR Tryz.prog 123 [[0,4,8,9]]),results:=[(.tmp 4),(.tmp 5),(.tmp 6)] }
theorem ao3:aR Tryz.prog 123 [[0,4,8,9]]=some acX:=by kernel_rfl
theorem ao4:acX.code.bB=true:=by kernel_rfl
noncomputable def aef:bG:=(cL (cK (cB (cA (cB acX.code)))))
theorem ai2:aef.bB=true:=by kernel_rfl
noncomputable def agm:bC:={ nargs:=1,ntmps:=20,code:=codeOf (aR Tryz.prog 124 []),results:=[(.tmp 2),(.tmp 3),(.tmp 4)] }
theorem ao5:aR Tryz.prog 124 []=some agm:=by kernel_rfl
theorem ao6:agm.code.bB=true:=by kernel_rfl
noncomputable def agn:bC:={ nargs:=1,ntmps:=37,code:=codeOf (aR Tryz.prog 125 []),results:=[(.tmp 2),(.tmp 3),(.tmp 4)] }
theorem ao7:aR Tryz.prog 125 []=some agn:=by kernel_rfl
theorem ao8:agn.code.bB=true:=by kernel_rfl
noncomputable def agp:bC:={ nargs:=2,ntmps:=37,code:=codeOf (aR Tryz.prog 126 []),results:=[(.tmp 4)] }
theorem ao9:aR Tryz.prog 126 []=some agp:=by kernel_rfl
theorem apa:agp.code.bB=true:=by kernel_rfl
noncomputable def agq:bC:={ nargs:=2,ntmps:=17,code:=codeOf (aR Tryz.prog 127 []),results:=[(.tmp 4)] }
theorem apb:aR Tryz.prog 127 []=some agq:=by kernel_rfl
theorem apc:agq.code.bB=true:=by kernel_rfl
noncomputable def agr:bC:={ nargs:=1,ntmps:=37,code:=codeOf (aR Tryz.prog 128 []),results:=[(.cell 2 true 2)] }
theorem apd:aR Tryz.prog 128 []=some agr:=by kernel_rfl
theorem ape:agr.code.bB=true:=by kernel_rfl
noncomputable def ags:bC:={ nargs:=1,ntmps:=36,code:=codeOf (aR Tryz.prog 129 []),results:=[(.cell 2 true 4)] }
theorem apf:aR Tryz.prog 129 []=some ags:=by kernel_rfl
theorem apg:ags.code.bB=true:=by kernel_rfl
noncomputable def agt:bC:={ nargs:=1,ntmps:=9,code:=codeOf (aR Tryz.prog 130 []),results:=[(.tmp 2)] }
theorem aph:aR Tryz.prog 130 []=some agt:=by kernel_rfl
theorem apj:agt.code.bB=true:=by kernel_rfl
noncomputable def agu:bC:={ nargs:=1,ntmps:=9,code:=codeOf (aR Tryz.prog 131 []),results:=[(.tmp 2)] }
theorem apk:aR Tryz.prog 131 []=some agu:=by kernel_rfl
theorem apl:agu.code.bB=true:=by kernel_rfl
noncomputable def acY:bC:={ nargs:=2,ntmps:=18,code:=codeOf (aR Tryz.prog 132 [[0,5]]),results:=[(.tmp 4)] }
theorem apm:aR Tryz.prog 132 [[0,5]]=some acY:=by kernel_rfl
theorem apn:acY.code.bB=true:=by kernel_rfl
noncomputable def aeg:bG:=(cL (cK (cB (cA (cB acY.code)))))
theorem ai3:aeg.bB=true:=by kernel_rfl
noncomputable def agv:bC:={ nargs:=1,ntmps:=30,code:=codeOf (aR Tryz.prog 133 []),results:=[(.tmp 2),(.tmp 3),(.tmp 4)] }
theorem apo:aR Tryz.prog 133 []=some agv:=by kernel_rfl
theorem apq:agv.code.bB=true:=by kernel_rfl
noncomputable def acZ:bC:={ nargs:=2,ntmps:=42,code:=codeOf (aR Tryz.prog 134 [[0,1,6]]),results:=[(.tmp 4),(.tmp 5)] }
theorem apr:aR Tryz.prog 134 [[0,1,6]]=some acZ:=by kernel_rfl
theorem aps:acZ.code.bB=true:=by kernel_rfl
noncomputable def TA:bG:=(cL (cK (cB (cA (cB acZ.code)))))
theorem ZE:TA.bB=true:=by kernel_rfl
noncomputable def ac0:bC:={ nargs:=1,ntmps:=20,code:=codeOf (aR Tryz.prog 135 [[2,3,6,7,8]]),results:=[(.cell 2 true 1)] }
theorem apt:aR Tryz.prog 135 [[2,3,6,7,8]]=some ac0:=by kernel_rfl
theorem apu:ac0.code.bB=true:=by kernel_rfl
noncomputable def aeh:bG:=(cL (cK (cB (cA (cB (cB ac0.code))))))
theorem ai4:aeh.bB=true:=by kernel_rfl
noncomputable def ac1:bC:={ nargs:=1,ntmps:=16,code:=codeOf (aR Tryz.prog 136 [[2,3,6,7,8]]),results:=[(.cell 2 true 16)] }
theorem apv:aR Tryz.prog 136 [[2,3,6,7,8]]=some ac1:=by kernel_rfl
theorem apw:ac1.code.bB=true:=by kernel_rfl
noncomputable def aei:bG:=(cL (cK (cB (cA (cB (cB ac1.code))))))
theorem ai5:aei.bB=true:=by kernel_rfl
noncomputable def agw:bC:={ nargs:=1,ntmps:=8,code:=codeOf (aR Tryz.prog 137 []),results:=[(.tmp 2)] }
theorem apx:aR Tryz.prog 137 []=some agw:=by kernel_rfl
theorem apy:agw.code.bB=true:=by kernel_rfl
noncomputable def ac2:bC:={ nargs:=2,ntmps:=19,code:=codeOf (aR Tryz.prog 138 [[0,1,7,8]]),results:=[(.tmp 4)] }
theorem apz:aR Tryz.prog 138 [[0,1,7,8]]=some ac2:=by kernel_rfl
theorem apA:ac2.code.bB=true:=by kernel_rfl
noncomputable def aej:bG:=(cL (cK (cB (cA (cB ac2.code)))))
theorem ai6:aej.bB=true:=by kernel_rfl
noncomputable def WS:bC:={ nargs:=1,ntmps:=47,code:=codeOf (aR Tryz.prog 139 [[0,2,5,6]]),results:=[(.tmp 2),(.tmp 3),(.tmp 4)] }
theorem apB:aR Tryz.prog 139 [[0,2,5,6]]=some WS:=by kernel_rfl
theorem apC:WS.code.bB=true:=by kernel_rfl
noncomputable def ZF:bG:=(cA (cB (cB (cB WS.code))))
theorem abk:ZF.bB=true:=by kernel_rfl
noncomputable def aek:bG:=(cL (cK (cB (cA (cB (cB (cB (cB WS.code))))))))
theorem ai7:aek.bB=true:=by kernel_rfl
noncomputable def TB:bG:=(cA (cB (cB (cB (cB (cB WS.code))))))
theorem Xx:TB.bB=true:=by kernel_rfl
noncomputable def agx:bC:={ nargs:=1,ntmps:=6,code:=codeOf (aR Tryz.prog 140 []),results:=[(.tmp 2)] }
theorem apD:aR Tryz.prog 140 []=some agx:=by kernel_rfl
theorem apE:agx.code.bB=true:=by kernel_rfl
noncomputable def agy:bC:={ nargs:=2,ntmps:=65,code:=codeOf (aR Tryz.prog 141 []),results:=[(.cell 4 true 2)] }
theorem apF:aR Tryz.prog 141 []=some agy:=by kernel_rfl
theorem apG:agy.code.bB=true:=by kernel_rfl
noncomputable def ac3:bC:={ nargs:=2,ntmps:=38,code:=codeOf (aR Tryz.prog 142 []),results:=[(.tmp 4)] }
theorem apH:aR Tryz.prog 142 []=some ac3:=by kernel_rfl
theorem apI:ac3.code.bB=true:=by kernel_rfl
noncomputable def agz:bG:=(cA (cB ac3.code))
theorem agA:agz.bB=true:=by kernel_rfl
noncomputable def ac4:bC:={ nargs:=2,ntmps:=19,code:=codeOf (aR Tryz.prog 143 [[0,1,7,8]]),results:=[(.tmp 4)] }
theorem apJ:aR Tryz.prog 143 [[0,1,7,8]]=some ac4:=by kernel_rfl
theorem apK:ac4.code.bB=true:=by kernel_rfl
noncomputable def ael:bG:=(cL (cK (cB (cA (cB ac4.code)))))
theorem ai8:ael.bB=true:=by kernel_rfl
noncomputable def agB:bC:={ nargs:=1,ntmps:=6,code:=codeOf (aR Tryz.prog 144 []),results:=[(.tmp 2)] }
theorem apL:aR Tryz.prog 144 []=some agB:=by kernel_rfl
theorem apM:agB.code.bB=true:=by kernel_rfl
noncomputable def agC:bC:={ nargs:=2,ntmps:=14,code:=codeOf (aR Tryz.prog 145 []),results:=[(.tmp 4),(.tmp 5)] }
theorem apN:aR Tryz.prog 145 []=some agC:=by kernel_rfl
theorem apO:agC.code.bB=true:=by kernel_rfl
noncomputable def agD:bC:={ nargs:=4,ntmps:=41,code:=codeOf (aR Tryz.prog 146 []),results:=[(.cell 8 true 2)] }
theorem apP:aR Tryz.prog 146 []=some agD:=by kernel_rfl
theorem apQ:agD.code.bB=true:=by kernel_rfl
noncomputable def agE:bC:={ nargs:=3,ntmps:=28,code:=codeOf (aR Tryz.prog 147 []),results:=[(.cell 6 true 2)] }
theorem apR:aR Tryz.prog 147 []=some agE:=by kernel_rfl
theorem apS:agE.code.bB=true:=by kernel_rfl
noncomputable def agF:bC:={ nargs:=3,ntmps:=33,code:=codeOf (aR Tryz.prog 148 []),results:=[(.tmp 6)] }
theorem apT:aR Tryz.prog 148 []=some agF:=by kernel_rfl
theorem apU:agF.code.bB=true:=by kernel_rfl
noncomputable def ac5:bC:={ nargs:=3,ntmps:=49,code:=codeOf (aR Tryz.prog 149 [[0,1,2,8,9,10]]),results:=[(.tmp 6),(.tmp 7)] }
theorem apV:aR Tryz.prog 149 [[0,1,2,8,9,10]]=some ac5:=by kernel_rfl
theorem apW:ac5.code.bB=true:=by kernel_rfl
noncomputable def aem:bG:=(cL (cK (cA (cB (cB (cB ac5.code))))))
theorem ai9:aem.bB=true:=by kernel_rfl
noncomputable def agG:bC:={ nargs:=2,ntmps:=9,code:=codeOf (aR Tryz.prog 150 []),results:=[(.tmp 4)] }
theorem apX:aR Tryz.prog 150 []=some agG:=by kernel_rfl
theorem apY:agG.code.bB=true:=by kernel_rfl
noncomputable def agH:bC:={ nargs:=2,ntmps:=20,code:=codeOf (aR Tryz.prog 151 []),results:=[(.tmp 4)] }
theorem apZ:aR Tryz.prog 151 []=some agH:=by kernel_rfl
theorem ap0:agH.code.bB=true:=by kernel_rfl
noncomputable def agI:bC:={ nargs:=3,ntmps:=22,code:=codeOf (aR Tryz.prog 152 []),results:=[] }
theorem ap1:aR Tryz.prog 152 []=some agI:=by kernel_rfl
theorem ap2:agI.code.bB=true:=by kernel_rfl
noncomputable def au6:bC:={ nargs:=3,ntmps:=95,code:=codeOf (aR Tryz.prog 153 []),results:=[(.tmp 6)] }
theorem ap3:aR Tryz.prog 153 []=some au6:=by kernel_rfl
noncomputable def agJ:bC:={ nargs:=1,ntmps:=6,code:=codeOf (aR Tryz.prog 154 []),results:=[(.tmp 2)] }
theorem ap4:aR Tryz.prog 154 []=some agJ:=by kernel_rfl
theorem ap5:agJ.code.bB=true:=by kernel_rfl
noncomputable def agK:bC:={ nargs:=2,ntmps:=10,code:=codeOf (aR Tryz.prog 156 []),results:=[] }
theorem ap6:aR Tryz.prog 156 []=some agK:=by kernel_rfl
theorem ap7:agK.code.bB=true:=by kernel_rfl
noncomputable def agL:bC:={ nargs:=2,ntmps:=14,code:=codeOf (aR Tryz.prog 157 []),results:=[] }
theorem ap8:aR Tryz.prog 157 []=some agL:=by kernel_rfl
theorem ap9:agL.code.bB=true:=by kernel_rfl
noncomputable def agM:bC:={ nargs:=1,ntmps:=28,code:=codeOf (aR Tryz.prog 158 [[0,2,3]]),results:=[] }
theorem aqa:aR Tryz.prog 158 [[0,2,3]]=some agM:=by kernel_rfl
theorem aqb:agM.code.bB=true:=by kernel_rfl
end Go.Proofs.YtohoggieaanllaaGreat
