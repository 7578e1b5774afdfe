import Derived.Test.YtohoggieaanllaaGreatJ5
import Derived.Test.YtohoggieaanllaaGreatProg
set_option linter.all false
set_option maxRecDepth 100000
namespace Go.Proofs.YtohoggieaanllaaGreat
noncomputable def WF3:bF:={ nargs:=6,ntmps:=127,code:=codeOf (aR Tryz.prog 3 [[102,103]]),results:=[(.tmp 12)] }
theorem avE:aR Tryz.prog 3 [[102,103]]=some WF3:=by kernel_rfl
theorem avF:WF3.code.bD=true:=by kernel_rfl
noncomputable def agt:bI:=(cA (cB (cB (cB WF3.code))))
theorem agu:agt.bD=true:=by kernel_rfl
noncomputable def ZY:bI:=(cA (cB (cB (cB (cB (cB WF3.code))))))
theorem abQ:ZY.bD=true:=by kernel_rfl
noncomputable def TY:bI:=(cA (cB (cB (cB (cB (cB (cB (cB WF3.code))))))))
theorem Ya:TY.bD=true:=by kernel_rfl
noncomputable def Q8:bI:=(cA (cA (cB (cB (cB (cB (cB (cB (cB WF3.code)))))))))
theorem V4:Q8.bD=true:=by kernel_rfl
noncomputable def Q9:bI:=(cA (cB (cB (cB (cB (cB (cB (cB (cB WF3.code)))))))))
theorem V5:Q9.bD=true:=by kernel_rfl
noncomputable def anC:bI:=(cL (cK (cB (cA (cB (cB (cB (cB (cB (cB (cB (cB (cB WF3.code)))))))))))))
theorem anD:anC.bD=true:=by kernel_rfl
noncomputable def WF8:bF:={ nargs:=2,ntmps:=154,code:=codeOf (aR Tryz.prog 8 [[1,2,4,5,6]]),results:=[(.cell 4 true 23)] }
theorem avG:aR Tryz.prog 8 [[1,2,4,5,6]]=some WF8:=by kernel_rfl
theorem avH:WF8.code.bD=true:=by kernel_rfl
noncomputable def Z0:bI:=(cA (cB (cB (cB WF8.code))))
theorem Xz:Z0.bD=true:=by kernel_rfl
noncomputable def agv:bI:=(cL (cK (cB (cA (cB (cB (cB (cB WF8.code))))))))
theorem agw:agv.bD=true:=by kernel_rfl
noncomputable def Jk:bI:=(cA (cL (cK (cB (cA (cB (cB (cB (cB WF8.code)))))))))
theorem Ka:Jk.bD=true:=by kernel_rfl
noncomputable def RY:bI:=(cA (cB (cB (cB (cB (cB WF8.code))))))
theorem Q_:RY.bD=true:=by kernel_rfl
noncomputable def Od:bI:=(cA (cA (cB (cB (cB (cB (cB WF8.code)))))))
theorem Oe:Od.bD=true:=by kernel_rfl
noncomputable def WF9:bF:={ nargs:=1,ntmps:=82,code:=codeOf (aR Tryz.prog 9 [[1,3,4]]),results:=[(.tmp 2)] }
theorem avI:aR Tryz.prog 9 [[1,3,4]]=some WF9:=by kernel_rfl
theorem avJ:WF9.code.bD=true:=by kernel_rfl
noncomputable def anE:bI:=(cL (cK (cB (cA (cB (cB (cB (cB (cB (cB WF9.code))))))))))
theorem anF:anE.bD=true:=by kernel_rfl
noncomputable def agx:bF:={ nargs:=1,ntmps:=46,code:=codeOf (aR Tryz.prog 10 []),results:=[(.tmp 2)] }
theorem arL:aR Tryz.prog 10 []=some agx:=by kernel_rfl
theorem arM:agx.code.bD=true:=by kernel_rfl
noncomputable def agy:bI:=(cA (cB (cB agx.code)))
theorem agz:agy.bD=true:=by kernel_rfl
noncomputable def Z4:bI:=(cA (cK (cA (cB (cB agx.code)))))
theorem abR:Z4.bD=true:=by kernel_rfl
noncomputable def XA:bI:=(cA (cA (cK (cA (cB (cB agx.code))))))
theorem Z5:XA.bD=true:=by kernel_rfl
noncomputable def aeE:bF:={ nargs:=1,ntmps:=120,code:=codeOf (aR Tryz.prog 11 [[1,60,61],[1,5],[1,6]]),results:=[(.tmp 2)] }
theorem arN:aR Tryz.prog 11 [[1,60,61],[1,5],[1,6]]=some aeE:=by kernel_rfl
theorem arO:aeE.code.bD=true:=by kernel_rfl
noncomputable def akE:bI:=(cA (cB aeE.code))
theorem aiH:akE.bD=true:=by kernel_rfl
noncomputable def aiI:bI:=(cL (cK (cB (cA (cB (cB aeE.code))))))
theorem alp:aiI.bD=true:=by kernel_rfl
noncomputable def aiJ:bI:=(cL (cK (cB (cA (cB (cB (cB aeE.code)))))))
theorem alq:aiJ.bD=true:=by kernel_rfl
noncomputable def aiK:bI:=(cL (cK (cB (cA (cB (cB (cB (cB aeE.code))))))))
theorem alr:aiK.bD=true:=by kernel_rfl
noncomputable def als:bF:={ nargs:=1,ntmps:=65,code:=codeOf (aR Tryz.prog 12 [[1,3,40,41,42]]),results:=[(.tmp 2)] }
theorem arP:aR Tryz.prog 12 [[1,3,40,41,42]]=some als:=by kernel_rfl
theorem arQ:als.code.bD=true:=by kernel_rfl
noncomputable def aiL:bI:=(cL (cK (cB (cA (cB (cB (cB (cB (cB (cB als.code))))))))))
theorem alu:aiL.bD=true:=by kernel_rfl
noncomputable def anG:bF:={ nargs:=2,ntmps:=52,code:=codeOf (aR Tryz.prog 13 []),results:=[(.tmp 4)] }
theorem arR:aR Tryz.prog 13 []=some anG:=by kernel_rfl
theorem arS:anG.code.bD=true:=by kernel_rfl
noncomputable def aiM:bF:={ nargs:=2,ntmps:=121,code:=codeOf (aR Tryz.prog 14 [[2,3,5]]),results:=[(.tmp 4)] }
theorem arT:aR Tryz.prog 14 [[2,3,5]]=some aiM:=by kernel_rfl
theorem arU:aiM.code.bD=true:=by kernel_rfl
noncomputable def akF:bI:=(cA (cB aiM.code))
theorem aiN:akF.bD=true:=by kernel_rfl
noncomputable def aiO:bI:=(cL (cK (cB (cA (cB (cB aiM.code))))))
theorem alv:aiO.bD=true:=by kernel_rfl
noncomputable def anH:bF:={ nargs:=2,ntmps:=15,code:=codeOf (aR Tryz.prog 15 []),results:=[(.tmp 4)] }
theorem arV:aR Tryz.prog 15 []=some anH:=by kernel_rfl
theorem arW:anH.code.bD=true:=by kernel_rfl
noncomputable def anI:bF:={ nargs:=2,ntmps:=14,code:=codeOf (aR Tryz.prog 16 []),results:=[(.tmp 4)] }
theorem arX:aR Tryz.prog 16 []=some anI:=by kernel_rfl
theorem arY:anI.code.bD=true:=by kernel_rfl
noncomputable def aiP:bF:={ nargs:=1,ntmps:=43,code:=codeOf (aR Tryz.prog 17 []),results:=[(.cell 2 true 23),(.tmp 3)] }
theorem arZ:aR Tryz.prog 17 []=some aiP:=by kernel_rfl
theorem ar0:aiP.code.bD=true:=by kernel_rfl
noncomputable def adj:bI:=(cA (cB (cB (cB aiP.code))))
theorem aeF:adj.bD=true:=by kernel_rfl
noncomputable def Z6:bI:=(cA (cA (cB (cB (cB aiP.code)))))
theorem abS:Z6.bD=true:=by kernel_rfl
noncomputable def Z7:bF:={ nargs:=1,ntmps:=120,code:=codeOf (aR Tryz.prog 18 [[2,4,5,6],[2,4,5,7]]),results:=[(.cell 2 true 23),(.tmp 3)] }
theorem ar1:aR Tryz.prog 18 [[2,4,5,6],[2,4,5,7]]=some Z7:=by kernel_rfl
theorem ar2:Z7.code.bD=true:=by kernel_rfl
noncomputable def aiQ:bI:=(cL (cK (cB (cA (cB (cB (cB (cB (cB Z7.code)))))))))
theorem alx:aiQ.bD=true:=by kernel_rfl
noncomputable def MG:bI:=(cA (cL (cK (cB (cA (cB (cB (cB (cB (cB Z7.code))))))))))
theorem RZ:MG.bD=true:=by kernel_rfl
noncomputable def aiR:bI:=(cL (cK (cB (cA (cB (cB (cB (cB (cB (cB Z7.code))))))))))
theorem aly:aiR.bD=true:=by kernel_rfl
noncomputable def Kc:bI:=(cA (cL (cK (cB (cA (cB (cB (cB (cB (cB (cB Z7.code)))))))))))
theorem Qt:Kc.bD=true:=by kernel_rfl
noncomputable def Og:bI:=(cA (cB (cB (cB (cB (cB (cB (cB (cB Z7.code)))))))))
theorem T9:Og.bD=true:=by kernel_rfl
noncomputable def MH:bI:=(cA (cA (cB (cB (cB (cB (cB (cB (cB (cB Z7.code))))))))))
theorem R3:MH.bD=true:=by kernel_rfl
noncomputable def anJ:bF:={ nargs:=0,ntmps:=29,code:=codeOf (aR Tryz.prog 19 []),results:=[(.tmp 0)] }
theorem ar3:aR Tryz.prog 19 []=some anJ:=by kernel_rfl
theorem ar4:anJ.code.bD=true:=by kernel_rfl
noncomputable def anK:bF:={ nargs:=1,ntmps:=7,code:=codeOf (aR Tryz.prog 32 []),results:=[(.tmp 2)] }
theorem ar5:aR Tryz.prog 32 []=some anK:=by kernel_rfl
theorem ar6:anK.code.bD=true:=by kernel_rfl
noncomputable def aiS:bF:={ nargs:=2,ntmps:=27,code:=codeOf (aR Tryz.prog 33 [[0,1,5,6]]),results:=[(.tmp 4)] }
theorem ar7:aR Tryz.prog 33 [[0,1,5,6]]=some aiS:=by kernel_rfl
theorem ar8:aiS.code.bD=true:=by kernel_rfl
noncomputable def Z8:bI:=(cL (cK (cB (cA (cB (cB aiS.code))))))
theorem adk:Z8.bD=true:=by kernel_rfl
noncomputable def LG:bI:=(cA (cL (cK (cB (cA (cB (cB aiS.code)))))))
theorem MI:LG.bD=true:=by kernel_rfl
noncomputable def anL:bF:={ nargs:=1,ntmps:=66,code:=codeOf (aR Tryz.prog 34 []),results:=[(.cell 2 true 6)] }
theorem ar9:aR Tryz.prog 34 []=some anL:=by kernel_rfl
theorem asa:anL.code.bD=true:=by kernel_rfl
noncomputable def anM:bF:={ nargs:=1,ntmps:=9,code:=codeOf (aR Tryz.prog 35 []),results:=[(.tmp 2)] }
theorem asb:aR Tryz.prog 35 []=some anM:=by kernel_rfl
theorem asc:anM.code.bD=true:=by kernel_rfl
noncomputable def aiT:bF:={ nargs:=4,ntmps:=113,code:=codeOf (aR Tryz.prog 36 [[2,3,8,9,10]]),results:=[(.cell 8 true 4)] }
theorem ase:aR Tryz.prog 36 [[2,3,8,9,10]]=some aiT:=by kernel_rfl
theorem asf:aiT.code.bD=true:=by kernel_rfl
noncomputable def Z9:bI:=(cL (cK (cB (cA (cB (cB aiT.code))))))
theorem adl:Z9.bD=true:=by kernel_rfl
noncomputable def LH:bI:=(cA (cL (cK (cB (cA (cB (cB aiT.code)))))))
theorem MJ:LH.bD=true:=by kernel_rfl
noncomputable def alz:bF:={ nargs:=1,ntmps:=35,code:=codeOf (aR Tryz.prog 37 []),results:=[(.tmp 2)] }
theorem asg:aR Tryz.prog 37 []=some alz:=by kernel_rfl
theorem ash:alz.code.bD=true:=by kernel_rfl
noncomputable def Z_:bI:=(cA (cK (cB (cA (cB alz.code)))))
theorem abT:Z_.bD=true:=by kernel_rfl
noncomputable def aiU:bF:={ nargs:=2,ntmps:=41,code:=codeOf (aR Tryz.prog 38 [[1,5,6],[1,5,6,7]]),results:=[(.tmp 4)] }
theorem asi:aR Tryz.prog 38 [[1,5,6],[1,5,6,7]]=some aiU:=by kernel_rfl
theorem asj:aiU.code.bD=true:=by kernel_rfl
noncomputable def aac:bI:=(cL (cK (cB (cA (cB (cB aiU.code))))))
theorem adn:aac.bD=true:=by kernel_rfl
noncomputable def aad:bI:=(cL (cK (cA (cB (cB (cK (cA (cB (cL (cK (cB (cA (cB (cB aiU.code))))))))))))))
theorem ado:aad.bD=true:=by kernel_rfl
noncomputable def anN:bF:={ nargs:=1,ntmps:=4,code:=codeOf (aR Tryz.prog 39 []),results:=[(.tmp 2)] }
theorem asl:aR Tryz.prog 39 []=some anN:=by kernel_rfl
theorem asn:anN.code.bD=true:=by kernel_rfl
noncomputable def anO:bF:={ nargs:=2,ntmps:=17,code:=codeOf (aR Tryz.prog 40 []),results:=[(.tmp 4)] }
theorem aso:aR Tryz.prog 40 []=some anO:=by kernel_rfl
theorem asq:anO.code.bD=true:=by kernel_rfl
noncomputable def anP:bF:={ nargs:=2,ntmps:=29,code:=codeOf (aR Tryz.prog 41 []),results:=[(.tmp 4)] }
theorem asr:aR Tryz.prog 41 []=some anP:=by kernel_rfl
theorem asu:anP.code.bD=true:=by kernel_rfl
noncomputable def aiV:bF:={ nargs:=2,ntmps:=79,code:=codeOf (aR Tryz.prog 42 [[3,5,6],[3,5,7]]),results:=[(.tmp 4)] }
theorem asv:aR Tryz.prog 42 [[3,5,6],[3,5,7]]=some aiV:=by kernel_rfl
theorem asw:aiV.code.bD=true:=by kernel_rfl
noncomputable def aiW:bI:=(cL (cK (cB (cA (cB (cB (cB aiV.code)))))))
theorem alA:aiW.bD=true:=by kernel_rfl
noncomputable def aiX:bI:=(cL (cK (cB (cA (cB (cB (cB (cB (cB aiV.code)))))))))
theorem alB:aiX.bD=true:=by kernel_rfl
noncomputable def anQ:bF:={ nargs:=1,ntmps:=6,code:=codeOf (aR Tryz.prog 43 []),results:=[(.tmp 2)] }
theorem asx:aR Tryz.prog 43 []=some anQ:=by kernel_rfl
theorem asy:anQ.code.bD=true:=by kernel_rfl
noncomputable def anR:bF:={ nargs:=1,ntmps:=9,code:=codeOf (aR Tryz.prog 44 []),results:=[(.tmp 2)] }
theorem asz:aR Tryz.prog 44 []=some anR:=by kernel_rfl
theorem asA:anR.code.bD=true:=by kernel_rfl
noncomputable def anS:bF:={ nargs:=2,ntmps:=9,code:=codeOf (aR Tryz.prog 45 []),results:=[(.tmp 4)] }
theorem asB:aR Tryz.prog 45 []=some anS:=by kernel_rfl
theorem asC:anS.code.bD=true:=by kernel_rfl
noncomputable def anT:bF:={ nargs:=1,ntmps:=20,code:=codeOf (aR Tryz.prog 46 []),results:=[(.tmp 2)] }
theorem asD:aR Tryz.prog 46 []=some anT:=by kernel_rfl
theorem asE:anT.code.bD=true:=by kernel_rfl
noncomputable def anU:bF:={ nargs:=2,ntmps:=9,code:=codeOf (aR Tryz.prog 47 []),results:=[(.tmp 4)] }
theorem asF:aR Tryz.prog 47 []=some anU:=by kernel_rfl
theorem asG:anU.code.bD=true:=by kernel_rfl
noncomputable def anV:bF:={ nargs:=1,ntmps:=29,code:=codeOf (aR Tryz.prog 48 []),results:=[(.tmp 2)] }
theorem asH:aR Tryz.prog 48 []=some anV:=by kernel_rfl
theorem asI:anV.code.bD=true:=by kernel_rfl
noncomputable def anW:bF:={ nargs:=1,ntmps:=29,code:=codeOf (aR Tryz.prog 49 []),results:=[(.tmp 2)] }
theorem asJ:aR Tryz.prog 49 []=some anW:=by kernel_rfl
theorem asK:anW.code.bD=true:=by kernel_rfl
noncomputable def anX:bF:={ nargs:=1,ntmps:=17,code:=codeOf (aR Tryz.prog 50 []),results:=[(.tmp 2)] }
theorem asL:aR Tryz.prog 50 []=some anX:=by kernel_rfl
theorem asM:anX.code.bD=true:=by kernel_rfl
noncomputable def anY:bF:={ nargs:=1,ntmps:=9,code:=codeOf (aR Tryz.prog 51 []),results:=[(.tmp 2)] }
theorem asN:aR Tryz.prog 51 []=some anY:=by kernel_rfl
theorem asO:anY.code.bD=true:=by kernel_rfl
noncomputable def anZ:bF:={ nargs:=1,ntmps:=17,code:=codeOf (aR Tryz.prog 52 []),results:=[(.tmp 2)] }
theorem asP:aR Tryz.prog 52 []=some anZ:=by kernel_rfl
theorem asQ:anZ.code.bD=true:=by kernel_rfl
noncomputable def an0:bF:={ nargs:=1,ntmps:=9,code:=codeOf (aR Tryz.prog 53 []),results:=[(.tmp 2)] }
theorem asR:aR Tryz.prog 53 []=some an0:=by kernel_rfl
theorem asS:an0.code.bD=true:=by kernel_rfl
noncomputable def an1:bF:={ nargs:=1,ntmps:=9,code:=codeOf (aR Tryz.prog 54 []),results:=[(.tmp 2)] }
theorem asT:aR Tryz.prog 54 []=some an1:=by kernel_rfl
theorem asU:an1.code.bD=true:=by kernel_rfl
noncomputable def agA:bF:={ nargs:=2,ntmps:=41,code:=codeOf (aR Tryz.prog 55 [[5,10,11,12],[5,7,10,11,12]]),results:=[(.tmp 4)] }
theorem asV:aR Tryz.prog 55 [[5,10,11,12],[5,7,10,11,12]]=some agA:=by kernel_rfl
theorem asW:agA.code.bD=true:=by kernel_rfl
noncomputable def aae:bI:=(cL (cK (cB (cA (cB (cB agA.code))))))
theorem adp:aae.bD=true:=by kernel_rfl
noncomputable def AA:bI:=(cA (cB (cK (cA (cB (cB (cL (cK (cB (cA (cB (cB agA.code))))))))))))
theorem DK:AA.bD=true:=by kernel_rfl
noncomputable def aaf:bI:=(cL (cK (cA (cB (cB (cK (cA (cB (cB (cL (cK (cB (cA (cB (cB agA.code)))))))))))))))
theorem adq:aaf.bD=true:=by kernel_rfl
noncomputable def an2:bF:={ nargs:=1,ntmps:=4,code:=codeOf (aR Tryz.prog 56 []),results:=[(.tmp 2)] }
theorem asX:aR Tryz.prog 56 []=some an2:=by kernel_rfl
theorem asY:an2.code.bD=true:=by kernel_rfl
noncomputable def an3:bF:={ nargs:=2,ntmps:=17,code:=codeOf (aR Tryz.prog 57 []),results:=[(.tmp 4)] }
theorem asZ:aR Tryz.prog 57 []=some an3:=by kernel_rfl
theorem as0:an3.code.bD=true:=by kernel_rfl
noncomputable def an4:bF:={ nargs:=2,ntmps:=29,code:=codeOf (aR Tryz.prog 58 []),results:=[(.tmp 4)] }
theorem as1:aR Tryz.prog 58 []=some an4:=by kernel_rfl
theorem as2:an4.code.bD=true:=by kernel_rfl
noncomputable def aiY:bF:={ nargs:=2,ntmps:=63,code:=codeOf (aR Tryz.prog 59 [[3,5,24,25,26],[5,45,46,47]]),results:=[(.tmp 4)] }
theorem as3:aR Tryz.prog 59 [[3,5,24,25,26],[5,45,46,47]]=some aiY:=by kernel_rfl
theorem as4:aiY.code.bD=true:=by kernel_rfl
noncomputable def aiZ:bI:=(cL (cK (cB (cA (cB (cB (cB aiY.code)))))))
theorem alC:aiZ.bD=true:=by kernel_rfl
noncomputable def ai0:bI:=(cL (cK (cB (cA (cB (cB (cB (cB (cB aiY.code)))))))))
theorem alD:ai0.bD=true:=by kernel_rfl
noncomputable def alE:bF:={ nargs:=2,ntmps:=26,code:=codeOf (aR Tryz.prog 60 [[0,1,12,13]]),results:=[(.tmp 4)] }
theorem as5:aR Tryz.prog 60 [[0,1,12,13]]=some alE:=by kernel_rfl
theorem as6:alE.code.bD=true:=by kernel_rfl
noncomputable def ai1:bI:=(cL (cK (cB (cA (cB (cB alE.code))))))
theorem alF:ai1.bD=true:=by kernel_rfl
noncomputable def alG:bF:={ nargs:=2,ntmps:=26,code:=codeOf (aR Tryz.prog 61 [[0,1,12,13]]),results:=[(.tmp 4)] }
theorem as7:aR Tryz.prog 61 [[0,1,12,13]]=some alG:=by kernel_rfl
theorem as8:alG.code.bD=true:=by kernel_rfl
noncomputable def ai2:bI:=(cL (cK (cB (cA (cB (cB alG.code))))))
theorem alH:ai2.bD=true:=by kernel_rfl
noncomputable def an5:bF:={ nargs:=2,ntmps:=31,code:=codeOf (aR Tryz.prog 62 []),results:=[(.tmp 4)] }
theorem as9:aR Tryz.prog 62 []=some an5:=by kernel_rfl
theorem ata:an5.code.bD=true:=by kernel_rfl
noncomputable def alI:bF:={ nargs:=2,ntmps:=26,code:=codeOf (aR Tryz.prog 63 [[0,1,5]]),results:=[(.tmp 4)] }
theorem atb:aR Tryz.prog 63 [[0,1,5]]=some alI:=by kernel_rfl
theorem atc:alI.code.bD=true:=by kernel_rfl
noncomputable def ai3:bI:=(cL (cK (cB (cA (cB (cB alI.code))))))
theorem alJ:ai3.bD=true:=by kernel_rfl
noncomputable def agB:bF:={ nargs:=2,ntmps:=73,code:=codeOf (aR Tryz.prog 64 [[2,3,5],[2,3,6]]),results:=[(.tmp 4)] }
theorem atd:aR Tryz.prog 64 [[2,3,5],[2,3,6]]=some agB:=by kernel_rfl
theorem ate:agB.code.bD=true:=by kernel_rfl
noncomputable def akG:bI:=(cA (cB agB.code))
theorem ai4:akG.bD=true:=by kernel_rfl
noncomputable def ai5:bI:=(cL (cK (cB (cA (cB (cB agB.code))))))
theorem alK:ai5.bD=true:=by kernel_rfl
noncomputable def ai6:bI:=(cL (cK (cB (cA (cB (cB (cB agB.code)))))))
theorem alL:ai6.bD=true:=by kernel_rfl
noncomputable def agC:bF:={ nargs:=1,ntmps:=128,code:=codeOf (aR Tryz.prog 65 [[0,2,91,92]]),results:=[(.cell 2 true 23)] }
theorem atf:aR Tryz.prog 65 [[0,2,91,92]]=some agC:=by kernel_rfl
theorem atg:agC.code.bD=true:=by kernel_rfl
noncomputable def aag:bI:=(cA (cB (cB (cB (cB agC.code)))))
theorem abU:aag.bD=true:=by kernel_rfl
noncomputable def XB:bI:=(cA (cB (cB (cB (cB (cB agC.code))))))
theorem aah:XB.bD=true:=by kernel_rfl
noncomputable def ai7:bI:=(cL (cK (cB (cA (cB (cB (cB (cB (cB (cB (cB agC.code)))))))))))
theorem alM:ai7.bD=true:=by kernel_rfl
noncomputable def an6:bF:={ nargs:=1,ntmps:=29,code:=codeOf (aR Tryz.prog 66 []),results:=[(.tmp 2)] }
theorem ath:aR Tryz.prog 66 []=some an6:=by kernel_rfl
theorem ati:an6.code.bD=true:=by kernel_rfl
noncomputable def an7:bF:={ nargs:=1,ntmps:=6,code:=codeOf (aR Tryz.prog 67 []),results:=[(.tmp 2)] }
theorem atj:aR Tryz.prog 67 []=some an7:=by kernel_rfl
theorem atl:an7.code.bD=true:=by kernel_rfl
noncomputable def an8:bF:={ nargs:=1,ntmps:=31,code:=codeOf (aR Tryz.prog 68 []),results:=[(.cell 2 true 6)] }
theorem atm:aR Tryz.prog 68 []=some an8:=by kernel_rfl
theorem atn:an8.code.bD=true:=by kernel_rfl
noncomputable def an9:bF:={ nargs:=1,ntmps:=15,code:=codeOf (aR Tryz.prog 69 []),results:=[(.cell 2 true 2)] }
theorem ato:aR Tryz.prog 69 []=some an9:=by kernel_rfl
theorem atp:an9.code.bD=true:=by kernel_rfl
noncomputable def alN:bF:={ nargs:=2,ntmps:=19,code:=codeOf (aR Tryz.prog 70 []),results:=[(.tmp 4)] }
theorem atq:aR Tryz.prog 70 []=some alN:=by kernel_rfl
theorem atr:alN.code.bD=true:=by kernel_rfl
noncomputable def agD:bI:=(cA (cB (cB alN.code)))
theorem agE:agD.bD=true:=by kernel_rfl
noncomputable def aeG:bF:={ nargs:=1,ntmps:=65,code:=codeOf (aR Tryz.prog 71 [[0,2,3,4],[0,2,3,5]]),results:=[(.cell 2 true 4)] }
theorem att:aR Tryz.prog 71 [[0,2,3,4],[0,2,3,5]]=some aeG:=by kernel_rfl
theorem atu:aeG.code.bD=true:=by kernel_rfl
noncomputable def ai8:bI:=(cL (cK (cB (cA (cB (cB aeG.code))))))
theorem alO:ai8.bD=true:=by kernel_rfl
noncomputable def T_:bI:=(cA (cL (cK (cB (cA (cB (cB aeG.code)))))))
theorem Yb:T_.bD=true:=by kernel_rfl
noncomputable def ai9:bI:=(cL (cK (cB (cA (cB (cB (cB aeG.code)))))))
theorem alP:ai9.bD=true:=by kernel_rfl
noncomputable def Ra:bI:=(cA (cL (cK (cB (cA (cB (cB (cB aeG.code))))))))
theorem V6:Ra.bD=true:=by kernel_rfl
noncomputable def aoa:bF:={ nargs:=1,ntmps:=28,code:=codeOf (aR Tryz.prog 76 []),results:=[(.cell 2 true 5)] }
theorem atv:aR Tryz.prog 76 []=some aoa:=by kernel_rfl
theorem atw:aoa.code.bD=true:=by kernel_rfl
noncomputable def aja:bF:={ nargs:=4,ntmps:=34,code:=codeOf (aR Tryz.prog 77 []),results:=[(.cell 8 true 4)] }
theorem atx:aR Tryz.prog 77 []=some aja:=by kernel_rfl
theorem aty:aja.code.bD=true:=by kernel_rfl
noncomputable def agF:bI:=(cA (cB (cB aja.code)))
theorem agG:agF.bD=true:=by kernel_rfl
noncomputable def adr:bI:=(cA (cA (cB (cB aja.code))))
theorem aeH:adr.bD=true:=by kernel_rfl
noncomputable def aob:bF:={ nargs:=2,ntmps:=13,code:=codeOf (aR Tryz.prog 78 []),results:=[(.tmp 4)] }
theorem atz:aR Tryz.prog 78 []=some aob:=by kernel_rfl
theorem atA:aob.code.bD=true:=by kernel_rfl
noncomputable def aoc:bF:={ nargs:=1,ntmps:=6,code:=codeOf (aR Tryz.prog 79 []),results:=[(.tmp 2)] }
theorem atB:aR Tryz.prog 79 []=some aoc:=by kernel_rfl
theorem atC:aoc.code.bD=true:=by kernel_rfl
noncomputable def aod:bF:={ nargs:=1,ntmps:=26,code:=codeOf (aR Tryz.prog 80 []),results:=[(.tmp 2)] }
theorem atD:aR Tryz.prog 80 []=some aod:=by kernel_rfl
theorem atE:aod.code.bD=true:=by kernel_rfl
noncomputable def aoe:bF:={ nargs:=1,ntmps:=15,code:=codeOf (aR Tryz.prog 81 []),results:=[(.tmp 2)] }
theorem atF:aR Tryz.prog 81 []=some aoe:=by kernel_rfl
theorem atG:aoe.code.bD=true:=by kernel_rfl
noncomputable def aof:bF:={ nargs:=2,ntmps:=54,code:=codeOf (aR Tryz.prog 82 []),results:=[(.cell 4 true 2),(.tmp 5)] }
theorem atH:aR Tryz.prog 82 []=some aof:=by kernel_rfl
theorem atJ:aof.code.bD=true:=by kernel_rfl
noncomputable def aog:bF:={ nargs:=1,ntmps:=26,code:=codeOf (aR Tryz.prog 83 []),results:=[(.cell 2 true 4)] }
theorem atK:aR Tryz.prog 83 []=some aog:=by kernel_rfl
theorem atL:aog.code.bD=true:=by kernel_rfl
noncomputable def aoh:bF:={ nargs:=1,ntmps:=7,code:=codeOf (aR Tryz.prog 84 []),results:=[(.tmp 2)] }
theorem atM:aR Tryz.prog 84 []=some aoh:=by kernel_rfl
theorem atN:aoh.code.bD=true:=by kernel_rfl
noncomputable def alQ:bF:={ nargs:=2,ntmps:=30,code:=codeOf (aR Tryz.prog 85 [[1,5,6]]),results:=[(.tmp 4)] }
theorem atO:aR Tryz.prog 85 [[1,5,6]]=some alQ:=by kernel_rfl
theorem atP:alQ.code.bD=true:=by kernel_rfl
noncomputable def ajb:bI:=(cL (cK (cB (cA (cB (cB alQ.code))))))
theorem alR:ajb.bD=true:=by kernel_rfl
noncomputable def alS:bF:={ nargs:=2,ntmps:=19,code:=codeOf (aR Tryz.prog 86 [[0,1,7,8]]),results:=[(.tmp 4)] }
theorem atQ:aR Tryz.prog 86 [[0,1,7,8]]=some alS:=by kernel_rfl
theorem atS:alS.code.bD=true:=by kernel_rfl
noncomputable def ajc:bI:=(cL (cK (cB (cA (cB alS.code)))))
theorem alT:ajc.bD=true:=by kernel_rfl
noncomputable def alU:bF:={ nargs:=2,ntmps:=19,code:=codeOf (aR Tryz.prog 87 [[0,1,7,8]]),results:=[(.tmp 4)] }
theorem atT:aR Tryz.prog 87 [[0,1,7,8]]=some alU:=by kernel_rfl
theorem atU:alU.code.bD=true:=by kernel_rfl
noncomputable def ajd:bI:=(cL (cK (cB (cA (cB alU.code)))))
theorem alV:ajd.bD=true:=by kernel_rfl
noncomputable def aeI:bF:={ nargs:=1,ntmps:=53,code:=codeOf (aR Tryz.prog 88 []),results:=[(.tmp 2)] }
theorem atV:aR Tryz.prog 88 []=some aeI:=by kernel_rfl
theorem atW:aeI.code.bD=true:=by kernel_rfl
noncomputable def akH:bI:=(cA (cB aeI.code))
theorem aje:akH.bD=true:=by kernel_rfl
noncomputable def agH:bI:=(cA (cB (cB aeI.code)))
theorem agI:agH.bD=true:=by kernel_rfl
noncomputable def aai:bI:=(cA (cK (cA (cB (cB aeI.code)))))
theorem abV:aai.bD=true:=by kernel_rfl
noncomputable def XC:bI:=(cA (cA (cK (cA (cB (cB aeI.code))))))
theorem aaj:XC.bD=true:=by kernel_rfl
noncomputable def aoi:bF:={ nargs:=1,ntmps:=23,code:=codeOf (aR Tryz.prog 89 []),results:=[(.tmp 2)] }
theorem atX:aR Tryz.prog 89 []=some aoi:=by kernel_rfl
theorem atY:aoi.code.bD=true:=by kernel_rfl
noncomputable def ajf:bF:={ nargs:=1,ntmps:=44,code:=codeOf (aR Tryz.prog 90 []),results:=[(.tmp 2)] }
theorem atZ:aR Tryz.prog 90 []=some ajf:=by kernel_rfl
theorem at0:ajf.code.bD=true:=by kernel_rfl
noncomputable def akI:bI:=(cA (cB ajf.code))
theorem ajg:akI.bD=true:=by kernel_rfl
noncomputable def ads:bI:=(cA (cB (cB (cB ajf.code))))
theorem aeJ:ads.bD=true:=by kernel_rfl
noncomputable def aoj:bF:={ nargs:=1,ntmps:=23,code:=codeOf (aR Tryz.prog 91 []),results:=[(.tmp 2)] }
theorem at1:aR Tryz.prog 91 []=some aoj:=by kernel_rfl
theorem at5:aoj.code.bD=true:=by kernel_rfl
noncomputable def aeK:bF:={ nargs:=1,ntmps:=113,code:=codeOf (aR Tryz.prog 92 [[1,3],[1,4]]),results:=[(.tmp 2)] }
theorem at6:aR Tryz.prog 92 [[1,3],[1,4]]=some aeK:=by kernel_rfl
theorem at7:aeK.code.bD=true:=by kernel_rfl
noncomputable def akJ:bI:=(cA (cB aeK.code))
theorem ajh:akJ.bD=true:=by kernel_rfl
noncomputable def aji:bI:=(cL (cK (cB (cA (cB (cB aeK.code))))))
theorem alW:aji.bD=true:=by kernel_rfl
noncomputable def ajj:bI:=(cL (cK (cB (cA (cB (cB (cB aeK.code)))))))
theorem alX:ajj.bD=true:=by kernel_rfl
noncomputable def IE:bI:=(cA (cB (cK (cA (cB (cL (cK (cB (cA (cB (cB (cB aeK.code))))))))))))
theorem Oh:IE.bD=true:=by kernel_rfl
noncomputable def aok:bF:={ nargs:=1,ntmps:=8,code:=codeOf (aR Tryz.prog 93 []),results:=[(.tmp 2)] }
theorem aua:aR Tryz.prog 93 []=some aok:=by kernel_rfl
theorem aub:aok.code.bD=true:=by kernel_rfl
noncomputable def aol:bF:={ nargs:=1,ntmps:=9,code:=codeOf (aR Tryz.prog 94 []),results:=[(.tmp 2)] }
theorem auc:aR Tryz.prog 94 []=some aol:=by kernel_rfl
theorem aud:aol.code.bD=true:=by kernel_rfl
noncomputable def alY:bF:={ nargs:=2,ntmps:=26,code:=codeOf (aR Tryz.prog 95 [[5,10,11,12]]),results:=[(.tmp 4)] }
theorem aue:aR Tryz.prog 95 [[5,10,11,12]]=some alY:=by kernel_rfl
theorem auf:alY.code.bD=true:=by kernel_rfl
noncomputable def ajk:bI:=(cL (cK (cB (cA (cB (cB alY.code))))))
theorem alZ:ajk.bD=true:=by kernel_rfl
noncomputable def al0:bF:={ nargs:=2,ntmps:=26,code:=codeOf (aR Tryz.prog 96 [[0,1,12,13]]),results:=[(.tmp 4)] }
theorem aug:aR Tryz.prog 96 [[0,1,12,13]]=some al0:=by kernel_rfl
theorem auh:al0.code.bD=true:=by kernel_rfl
noncomputable def ajl:bI:=(cL (cK (cB (cA (cB (cB al0.code))))))
theorem al1:ajl.bD=true:=by kernel_rfl
noncomputable def al2:bF:={ nargs:=2,ntmps:=26,code:=codeOf (aR Tryz.prog 97 [[0,1,12,13]]),results:=[(.tmp 4)] }
theorem aui:aR Tryz.prog 97 [[0,1,12,13]]=some al2:=by kernel_rfl
theorem auj:al2.code.bD=true:=by kernel_rfl
noncomputable def ajm:bI:=(cL (cK (cB (cA (cB (cB al2.code))))))
theorem al3:ajm.bD=true:=by kernel_rfl
noncomputable def aom:bF:={ nargs:=2,ntmps:=37,code:=codeOf (aR Tryz.prog 98 []),results:=[(.tmp 4)] }
theorem auk:aR Tryz.prog 98 []=some aom:=by kernel_rfl
theorem aul:aom.code.bD=true:=by kernel_rfl
noncomputable def aon:bF:={ nargs:=2,ntmps:=17,code:=codeOf (aR Tryz.prog 99 []),results:=[(.tmp 4)] }
theorem aum:aR Tryz.prog 99 []=some aon:=by kernel_rfl
theorem aun:aon.code.bD=true:=by kernel_rfl
noncomputable def agJ:bF:={ nargs:=1,ntmps:=53,code:=codeOf (aR Tryz.prog 100 []),results:=[(.cell 2 true 6),(.tmp 3),(.tmp 4)] }
theorem aoo:aR Tryz.prog 100 []=some agJ:=by kernel_rfl
theorem aoq:agJ.code.bD=true:=by kernel_rfl
noncomputable def agK:bF:={ nargs:=1,ntmps:=36,code:=codeOf (aR Tryz.prog 101 []),results:=[(.cell 2 true 2),(.tmp 3),(.tmp 4)] }
theorem aor:aR Tryz.prog 101 []=some agK:=by kernel_rfl
theorem aos:agK.code.bD=true:=by kernel_rfl
noncomputable def agL:bF:={ nargs:=1,ntmps:=9,code:=codeOf (aR Tryz.prog 102 []),results:=[(.tmp 2)] }
theorem aot:aR Tryz.prog 102 []=some agL:=by kernel_rfl
theorem aou:agL.code.bD=true:=by kernel_rfl
noncomputable def agM:bF:={ nargs:=1,ntmps:=22,code:=codeOf (aR Tryz.prog 103 []),results:=[(.cell 2 true 5)] }
theorem aov:aR Tryz.prog 103 []=some agM:=by kernel_rfl
theorem aow:agM.code.bD=true:=by kernel_rfl
noncomputable def agN:bF:={ nargs:=1,ntmps:=9,code:=codeOf (aR Tryz.prog 104 []),results:=[(.tmp 2)] }
theorem aox:aR Tryz.prog 104 []=some agN:=by kernel_rfl
theorem aoy:agN.code.bD=true:=by kernel_rfl
noncomputable def Ua:bF:={ nargs:=1,ntmps:=80,code:=codeOf (aR Tryz.prog 105 [[2,5,21,22],[2,5,33,34]]),results:=[(.cell 2 true 4),(.tmp 3),(.tmp 4)] }
theorem aoz:aR Tryz.prog 105 [[2,5,21,22],[2,5,33,34]]=some Ua:=by kernel_rfl
theorem aoA:Ua.code.bD=true:=by kernel_rfl
noncomputable def aeL:bI:=(cL (cK (cB (cA (cB (cB (cB (cB Ua.code))))))))
theorem ajn:aeL.bD=true:=by kernel_rfl
noncomputable def aeM:bI:=(cL (cK (cB (cA (cB (cB (cB (cB (cB Ua.code)))))))))
theorem ajo:aeM.bD=true:=by kernel_rfl
noncomputable def Rb:bI:=(cA (cB (cB (cB (cB (cB (cB Ua.code)))))))
theorem V7:Rb.bD=true:=by kernel_rfl
noncomputable def Oi:bI:=(cA (cA (cB (cB (cB (cB (cB (cB Ua.code))))))))
theorem Ub:Oi.bD=true:=by kernel_rfl
noncomputable def Uc:bF:={ nargs:=1,ntmps:=56,code:=codeOf (aR Tryz.prog 106 [[0,5,6]]),results:=[(.tmp 2),(.tmp 3),(.tmp 4)] }
theorem aoB:aR Tryz.prog 106 [[0,5,6]]=some Uc:=by kernel_rfl
theorem aoC:Uc.code.bD=true:=by kernel_rfl
noncomputable def aeN:bI:=(cL (cK (cB (cA (cB (cB Uc.code))))))
theorem ajp:aeN.bD=true:=by kernel_rfl
noncomputable def IG:bI:=(cA (cB (cK (cA (cB (cL (cK (cB (cA (cB (cB Uc.code)))))))))))
theorem Oj:IG.bD=true:=by kernel_rfl
noncomputable def Gc:bI:=(cA (cA (cB (cK (cA (cB (cL (cK (cB (cA (cB (cB Uc.code))))))))))))
theorem Nn:Gc.bD=true:=by kernel_rfl
noncomputable def DL:bI:=(cA (cB (cB (cB (cB (cK (cA (cB (cL (cK (cB (cA (cB (cB Uc.code))))))))))))))
theorem Ke:DL.bD=true:=by kernel_rfl
noncomputable def agO:bF:={ nargs:=1,ntmps:=29,code:=codeOf (aR Tryz.prog 107 []),results:=[(.tmp 2)] }
theorem aoD:aR Tryz.prog 107 []=some agO:=by kernel_rfl
theorem aoE:agO.code.bD=true:=by kernel_rfl
noncomputable def agP:bF:={ nargs:=2,ntmps:=13,code:=codeOf (aR Tryz.prog 108 []),results:=[] }
theorem aoF:aR Tryz.prog 108 []=some agP:=by kernel_rfl
theorem aoG:agP.code.bD=true:=by kernel_rfl
noncomputable def agQ:bF:={ nargs:=1,ntmps:=7,code:=codeOf (aR Tryz.prog 109 []),results:=[(.tmp 2)] }
theorem aoH:aR Tryz.prog 109 []=some agQ:=by kernel_rfl
theorem aoI:agQ.code.bD=true:=by kernel_rfl
noncomputable def adt:bF:={ nargs:=1,ntmps:=58,code:=codeOf (aR Tryz.prog 110 []),results:=[(.tmp 2)] }
theorem aoJ:aR Tryz.prog 110 []=some adt:=by kernel_rfl
theorem aoK:adt.code.bD=true:=by kernel_rfl
noncomputable def agR:bI:=(cA (cB adt.code))
theorem agS:agR.bD=true:=by kernel_rfl
noncomputable def adu:bF:={ nargs:=1,ntmps:=25,code:=codeOf (aR Tryz.prog 111 [[0,2,3,4]]),results:=[(.cell 2 true 1)] }
theorem aoL:aR Tryz.prog 111 [[0,2,3,4]]=some adu:=by kernel_rfl
theorem aoM:adu.code.bD=true:=by kernel_rfl
noncomputable def aeO:bI:=(cL (cK (cB (cA (cB (cB adu.code))))))
theorem ajq:aeO.bD=true:=by kernel_rfl
noncomputable def adv:bF:={ nargs:=1,ntmps:=18,code:=codeOf (aR Tryz.prog 112 [[0,2,3,4]]),results:=[(.cell 2 true 1)] }
theorem aoN:aR Tryz.prog 112 [[0,2,3,4]]=some adv:=by kernel_rfl
theorem aoO:adv.code.bD=true:=by kernel_rfl
noncomputable def aeP:bI:=(cL (cK (cB (cA (cB (cB adv.code))))))
theorem ajr:aeP.bD=true:=by kernel_rfl
noncomputable def adw:bF:={ nargs:=2,ntmps:=34,code:=codeOf (aR Tryz.prog 113 [[0,1,4,6]]),results:=[(.cell 4 true 4),(.tmp 5)] }
theorem aoP:aR Tryz.prog 113 [[0,1,4,6]]=some adw:=by kernel_rfl
theorem aoQ:adw.code.bD=true:=by kernel_rfl
noncomputable def Ud:bI:=(cL (cK (cB (cA (cB adw.code)))))
theorem aak:Ud.bD=true:=by kernel_rfl
noncomputable def aal:bF:={ nargs:=2,ntmps:=147,code:=codeOf (aR Tryz.prog 114 []),results:=[(.cell 4 true 2)] }
theorem aoR:aR Tryz.prog 114 []=some aal:=by kernel_rfl
theorem aoS:aal.code.bD=true:=by kernel_rfl
noncomputable def AB:bI:=(cA (cT (cB (cF (cB (cK (cB (cA (cB (cB (cB aal.code)))))))))))
theorem DN:AB.bD=true:=by kernel_rfl
noncomputable def vP:bI:=(cA (cB (cB (cB (cT (cB (cF (cB (cK (cB (cA (cB (cB (cB aal.code))))))))))))))
theorem zW:vP.bD=true:=by kernel_rfl
noncomputable def Rc:bF:={ nargs:=2,ntmps:=96,code:=codeOf (aR Tryz.prog 115 [[0,3,7,8,9]]),results:=[(.tmp 4)] }
theorem aoT:aR Tryz.prog 115 [[0,3,7,8,9]]=some Rc:=by kernel_rfl
theorem aoU:Rc.code.bD=true:=by kernel_rfl
noncomputable def V8:bI:=(cA (cB (cB Rc.code)))
theorem Ue:V8.bD=true:=by kernel_rfl
noncomputable def Uf:bI:=(cL (cK (cB (cA (cB (cB (cB (cB (cB Rc.code)))))))))
theorem aam:Uf.bD=true:=by kernel_rfl
noncomputable def yc:bI:=(cA (cK (cA (cB (cL (cK (cB (cA (cB (cB (cB (cB (cB Rc.code)))))))))))))
theorem AJ:yc.bD=true:=by kernel_rfl
noncomputable def vQ:bI:=(cA (cA (cK (cA (cB (cL (cK (cB (cA (cB (cB (cB (cB (cB Rc.code))))))))))))))
theorem zX:vQ.bD=true:=by kernel_rfl
noncomputable def Jl:bI:=(cA (cB (cB (cB (cB (cB (cB Rc.code)))))))
theorem Kg:Jl.bD=true:=by kernel_rfl
noncomputable def agT:bF:={ nargs:=1,ntmps:=14,code:=codeOf (aR Tryz.prog 116 []),results:=[(.cell 2 true 19)] }
theorem aoV:aR Tryz.prog 116 []=some agT:=by kernel_rfl
theorem aoW:agT.code.bD=true:=by kernel_rfl
noncomputable def agU:bF:={ nargs:=1,ntmps:=9,code:=codeOf (aR Tryz.prog 117 []),results:=[(.tmp 2)] }
theorem aoX:aR Tryz.prog 117 []=some agU:=by kernel_rfl
theorem aoY:agU.code.bD=true:=by kernel_rfl
noncomputable def adx:bF:={ nargs:=1,ntmps:=23,code:=codeOf (aR Tryz.prog 118 [[3,9,10]]),results:=[(.tmp 2)] }
theorem aoZ:aR Tryz.prog 118 [[3,9,10]]=some adx:=by kernel_rfl
theorem ao0:adx.code.bD=true:=by kernel_rfl
noncomputable def aeQ:bI:=(cL (cK (cB (cA (cB (cB adx.code))))))
theorem ajs:aeQ.bD=true:=by kernel_rfl
noncomputable def agV:bF:={ nargs:=2,ntmps:=9,code:=codeOf (aR Tryz.prog 119 []),results:=[(.tmp 4)] }
theorem ao1:aR Tryz.prog 119 []=some agV:=by kernel_rfl
theorem ao2:agV.code.bD=true:=by kernel_rfl
noncomputable def agW:bF:={ nargs:=1,ntmps:=6,code:=codeOf (aR Tryz.prog 120 []),results:=[(.tmp 2)] }
theorem ao3:aR Tryz.prog 120 []=some agW:=by kernel_rfl
theorem ao4:agW.code.bD=true:=by kernel_rfl
noncomputable def ady:bF:={ nargs:=1,ntmps:=21,code:=codeOf (aR Tryz.prog 121 []),results:=[(.tmp 2)] }
theorem ao5:aR Tryz.prog 121 []=some ady:=by kernel_rfl
theorem ao6:ady.code.bD=true:=by kernel_rfl
noncomputable def XD:bI:=(cA (cK (cB (cA (cB ady.code)))))
theorem aan:XD.bD=true:=by kernel_rfl
noncomputable def adz:bF:={ nargs:=2,ntmps:=40,code:=codeOf (aR Tryz.prog 122 [[0,4,7,12,13]]),results:=[(.tmp 4),(.tmp 5),(.tmp 6)] }
theorem ao7:aR Tryz.prog 122 [[0,4,7,12,13]]=some adz:=by kernel_rfl
theorem ao8:adz.code.bD=true:=by kernel_rfl
noncomputable def aeR:bI:=(cL (cK (cB (cA (cB (cB adz.code))))))
theorem ajt:aeR.bD=true:=by kernel_rfl
noncomputable def adA:bF:={ nargs:=2,ntmps:=27,code:=codeOf (aR Tryz.prog 123 [[0,4,8,9]]),results:=[(.tmp 4),(.tmp 5),(.tmp 6)] }
theorem ao9:aR Tryz.prog 123 [[0,4,8,9]]=some adA:=by kernel_rfl
theorem apa:adA.code.bD=true:=by kernel_rfl
noncomputable def aeS:bI:=(cL (cK (cB (cA (cB adA.code)))))
theorem aju:aeS.bD=true:=by kernel_rfl
noncomputable def agY:bF:={ nargs:=1,ntmps:=20,code:=codeOf (aR Tryz.prog 124 []),results:=[(.tmp 2),(.tmp 3),(.tmp 4)] }
theorem apb:aR Tryz.prog 124 []=some agY:=by kernel_rfl
theorem apc:agY.code.bD=true:=by kernel_rfl
noncomputable def agZ:bF:={ nargs:=1,ntmps:=37,code:=codeOf (aR Tryz.prog 125 []),results:=[(.tmp 2),(.tmp 3),(.tmp 4)] }
theorem apd:aR Tryz.prog 125 []=some agZ:=by kernel_rfl
theorem ape:agZ.code.bD=true:=by kernel_rfl
noncomputable def ag0:bF:={ nargs:=2,ntmps:=37,code:=codeOf (aR Tryz.prog 126 []),results:=[(.tmp 4)] }
theorem apf:aR Tryz.prog 126 []=some ag0:=by kernel_rfl
theorem apg:ag0.code.bD=true:=by kernel_rfl
noncomputable def ag1:bF:={ nargs:=2,ntmps:=17,code:=codeOf (aR Tryz.prog 127 []),results:=[(.tmp 4)] }
theorem aph:aR Tryz.prog 127 []=some ag1:=by kernel_rfl
theorem apj:ag1.code.bD=true:=by kernel_rfl
noncomputable def ag2:bF:={ nargs:=1,ntmps:=37,code:=codeOf (aR Tryz.prog 128 []),results:=[(.cell 2 true 2)] }
theorem apk:aR Tryz.prog 128 []=some ag2:=by kernel_rfl
theorem apl:ag2.code.bD=true:=by kernel_rfl
noncomputable def ag3:bF:={ nargs:=1,ntmps:=36,code:=codeOf (aR Tryz.prog 129 []),results:=[(.cell 2 true 4)] }
theorem apm:aR Tryz.prog 129 []=some ag3:=by kernel_rfl
theorem apn:ag3.code.bD=true:=by kernel_rfl
noncomputable def ag4:bF:={ nargs:=1,ntmps:=9,code:=codeOf (aR Tryz.prog 130 []),results:=[(.tmp 2)] }
theorem apo:aR Tryz.prog 130 []=some ag4:=by kernel_rfl
theorem apq:ag4.code.bD=true:=by kernel_rfl
noncomputable def ag5:bF:={ nargs:=1,ntmps:=9,code:=codeOf (aR Tryz.prog 131 []),results:=[(.tmp 2)] }
theorem apr:aR Tryz.prog 131 []=some ag5:=by kernel_rfl
theorem aps:ag5.code.bD=true:=by kernel_rfl
noncomputable def adB:bF:={ nargs:=2,ntmps:=18,code:=codeOf (aR Tryz.prog 132 [[0,5]]),results:=[(.tmp 4)] }
theorem apt:aR Tryz.prog 132 [[0,5]]=some adB:=by kernel_rfl
theorem apu:adB.code.bD=true:=by kernel_rfl
noncomputable def aeT:bI:=(cL (cK (cB (cA (cB adB.code)))))
theorem ajv:aeT.bD=true:=by kernel_rfl
noncomputable def ag6:bF:={ nargs:=1,ntmps:=30,code:=codeOf (aR Tryz.prog 133 []),results:=[(.tmp 2),(.tmp 3),(.tmp 4)] }
theorem apv:aR Tryz.prog 133 []=some ag6:=by kernel_rfl
theorem apw:ag6.code.bD=true:=by kernel_rfl
noncomputable def adC:bF:={ nargs:=2,ntmps:=42,code:=codeOf (aR Tryz.prog 134 [[0,1,6]]),results:=[(.tmp 4),(.tmp 5)] }
theorem apx:aR Tryz.prog 134 [[0,1,6]]=some adC:=by kernel_rfl
theorem apy:adC.code.bD=true:=by kernel_rfl
noncomputable def Ug:bI:=(cL (cK (cB (cA (cB adC.code)))))
theorem aao:Ug.bD=true:=by kernel_rfl
noncomputable def adD:bF:={ nargs:=1,ntmps:=20,code:=codeOf (aR Tryz.prog 135 [[2,3,6,7,8]]),results:=[(.cell 2 true 1)] }
theorem apz:aR Tryz.prog 135 [[2,3,6,7,8]]=some adD:=by kernel_rfl
theorem apA:adD.code.bD=true:=by kernel_rfl
noncomputable def aeU:bI:=(cL (cK (cB (cA (cB (cB adD.code))))))
theorem ajw:aeU.bD=true:=by kernel_rfl
noncomputable def adE:bF:={ nargs:=1,ntmps:=16,code:=codeOf (aR Tryz.prog 136 [[2,3,6,7,8]]),results:=[(.cell 2 true 16)] }
theorem apB:aR Tryz.prog 136 [[2,3,6,7,8]]=some adE:=by kernel_rfl
theorem apC:adE.code.bD=true:=by kernel_rfl
noncomputable def aeV:bI:=(cL (cK (cB (cA (cB (cB adE.code))))))
theorem ajx:aeV.bD=true:=by kernel_rfl
noncomputable def ag7:bF:={ nargs:=1,ntmps:=8,code:=codeOf (aR Tryz.prog 137 []),results:=[(.tmp 2)] }
theorem apD:aR Tryz.prog 137 []=some ag7:=by kernel_rfl
theorem apE:ag7.code.bD=true:=by kernel_rfl
noncomputable def adF:bF:={ nargs:=2,ntmps:=19,code:=codeOf (aR Tryz.prog 138 [[0,1,7,8]]),results:=[(.tmp 4)] }
theorem apF:aR Tryz.prog 138 [[0,1,7,8]]=some adF:=by kernel_rfl
theorem apG:adF.code.bD=true:=by kernel_rfl
noncomputable def aeW:bI:=(cL (cK (cB (cA (cB adF.code)))))
theorem ajy:aeW.bD=true:=by kernel_rfl
noncomputable def XE:bF:={ nargs:=1,ntmps:=47,code:=codeOf (aR Tryz.prog 139 [[0,2,5,6]]),results:=[(.tmp 2),(.tmp 3),(.tmp 4)] }
theorem apH:aR Tryz.prog 139 [[0,2,5,6]]=some XE:=by kernel_rfl
theorem apI:XE.code.bD=true:=by kernel_rfl
noncomputable def aap:bI:=(cA (cB (cB (cB XE.code))))
theorem abW:aap.bD=true:=by kernel_rfl
noncomputable def aeX:bI:=(cL (cK (cB (cA (cB (cB (cB (cB XE.code))))))))
theorem ajz:aeX.bD=true:=by kernel_rfl
noncomputable def Uh:bI:=(cA (cB (cB (cB (cB (cB XE.code))))))
theorem Yc:Uh.bD=true:=by kernel_rfl
noncomputable def ag8:bF:={ nargs:=1,ntmps:=6,code:=codeOf (aR Tryz.prog 140 []),results:=[(.tmp 2)] }
theorem apJ:aR Tryz.prog 140 []=some ag8:=by kernel_rfl
theorem apK:ag8.code.bD=true:=by kernel_rfl
noncomputable def ag9:bF:={ nargs:=2,ntmps:=65,code:=codeOf (aR Tryz.prog 141 []),results:=[(.cell 4 true 2)] }
theorem apL:aR Tryz.prog 141 []=some ag9:=by kernel_rfl
theorem apM:ag9.code.bD=true:=by kernel_rfl
noncomputable def adG:bF:={ nargs:=2,ntmps:=38,code:=codeOf (aR Tryz.prog 142 []),results:=[(.tmp 4)] }
theorem apN:aR Tryz.prog 142 []=some adG:=by kernel_rfl
theorem apO:adG.code.bD=true:=by kernel_rfl
noncomputable def aha:bI:=(cA (cB adG.code))
theorem ahb:aha.bD=true:=by kernel_rfl
noncomputable def adH:bF:={ nargs:=2,ntmps:=19,code:=codeOf (aR Tryz.prog 143 [[0,1,7,8]]),results:=[(.tmp 4)] }
theorem apP:aR Tryz.prog 143 [[0,1,7,8]]=some adH:=by kernel_rfl
theorem apQ:adH.code.bD=true:=by kernel_rfl
noncomputable def aeY:bI:=(cL (cK (cB (cA (cB adH.code)))))
theorem ajA:aeY.bD=true:=by kernel_rfl
noncomputable def ahc:bF:={ nargs:=1,ntmps:=6,code:=codeOf (aR Tryz.prog 144 []),results:=[(.tmp 2)] }
theorem apR:aR Tryz.prog 144 []=some ahc:=by kernel_rfl
theorem apS:ahc.code.bD=true:=by kernel_rfl
noncomputable def ahd:bF:={ nargs:=2,ntmps:=14,code:=codeOf (aR Tryz.prog 145 []),results:=[(.tmp 4),(.tmp 5)] }
theorem apT:aR Tryz.prog 145 []=some ahd:=by kernel_rfl
theorem apU:ahd.code.bD=true:=by kernel_rfl
noncomputable def ahe:bF:={ nargs:=4,ntmps:=41,code:=codeOf (aR Tryz.prog 146 []),results:=[(.cell 8 true 2)] }
theorem apV:aR Tryz.prog 146 []=some ahe:=by kernel_rfl
theorem apW:ahe.code.bD=true:=by kernel_rfl
noncomputable def ahf:bF:={ nargs:=3,ntmps:=28,code:=codeOf (aR Tryz.prog 147 []),results:=[(.cell 6 true 2)] }
theorem apX:aR Tryz.prog 147 []=some ahf:=by kernel_rfl
theorem apY:ahf.code.bD=true:=by kernel_rfl
noncomputable def ahg:bF:={ nargs:=3,ntmps:=33,code:=codeOf (aR Tryz.prog 148 []),results:=[(.tmp 6)] }
theorem apZ:aR Tryz.prog 148 []=some ahg:=by kernel_rfl
theorem ap0:ahg.code.bD=true:=by kernel_rfl
noncomputable def adI:bF:={ nargs:=3,ntmps:=49,code:=codeOf (aR Tryz.prog 149 [[0,1,2,8,9,10]]),results:=[(.tmp 6),(.tmp 7)] }
theorem ap1:aR Tryz.prog 149 [[0,1,2,8,9,10]]=some adI:=by kernel_rfl
theorem ap2:adI.code.bD=true:=by kernel_rfl
noncomputable def aeZ:bI:=(cL (cK (cA (cB (cB (cB adI.code))))))
theorem ajB:aeZ.bD=true:=by kernel_rfl
noncomputable def ahh:bF:={ nargs:=2,ntmps:=9,code:=codeOf (aR Tryz.prog 150 []),results:=[(.tmp 4)] }
theorem ap3:aR Tryz.prog 150 []=some ahh:=by kernel_rfl
theorem ap4:ahh.code.bD=true:=by kernel_rfl
noncomputable def ahj:bF:={ nargs:=2,ntmps:=20,code:=codeOf (aR Tryz.prog 151 []),results:=[(.tmp 4)] }
theorem ap5:aR Tryz.prog 151 []=some ahj:=by kernel_rfl
theorem ap6:ahj.code.bD=true:=by kernel_rfl
noncomputable def ahk:bF:={ nargs:=3,ntmps:=22,code:=codeOf (aR Tryz.prog 152 []),results:=[] }
theorem ap7:aR Tryz.prog 152 []=some ahk:=by kernel_rfl
theorem ap8:ahk.code.bD=true:=by kernel_rfl
noncomputable def au0:bF:={ nargs:=3,ntmps:=95,code:=codeOf (aR Tryz.prog 153 []),results:=[(.tmp 6)] }
theorem ap9:aR Tryz.prog 153 []=some au0:=by kernel_rfl
noncomputable def ahl:bF:={ nargs:=1,ntmps:=6,code:=codeOf (aR Tryz.prog 154 []),results:=[(.tmp 2)] }
theorem aqa:aR Tryz.prog 154 []=some ahl:=by kernel_rfl
theorem aqb:ahl.code.bD=true:=by kernel_rfl
noncomputable def ahm:bF:={ nargs:=2,ntmps:=10,code:=codeOf (aR Tryz.prog 156 []),results:=[] }
theorem aqc:aR Tryz.prog 156 []=some ahm:=by kernel_rfl
theorem aqd:ahm.code.bD=true:=by kernel_rfl
noncomputable def ahn:bF:={ nargs:=2,ntmps:=14,code:=codeOf (aR Tryz.prog 157 []),results:=[] }
theorem aqe:aR Tryz.prog 157 []=some ahn:=by kernel_rfl
theorem aqf:ahn.code.bD=true:=by kernel_rfl
noncomputable def aho:bF:={ nargs:=1,ntmps:=28,code:=codeOf (aR Tryz.prog 158 [[0,2,3]]),results:=[] }
theorem aqg:aR Tryz.prog 158 [[0,2,3]]=some aho:=by kernel_rfl
theorem aqh:aho.code.bD=true:=by kernel_rfl
end Go.Proofs.YtohoggieaanllaaGreat
