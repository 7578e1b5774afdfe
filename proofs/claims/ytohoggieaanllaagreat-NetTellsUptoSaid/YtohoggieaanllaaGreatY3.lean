import Derived.Test.YtohoggieaanllaaGreatJ6
import Derived.Test.YtohoggieaanllaaGreatProg
set_option linter.all false
set_option maxRecDepth 100000
namespace Go.Proofs.YtohoggieaanllaaGreat
noncomputable def WF7:bY:={ nargs:=1,ntmps:=118,code:=codeOf (bg Tryz.prog 7 [[3,4,17,18,19],[3,4,6,13,14,17,18,19]]),results:=[(.tmp 2)] }
theorem azw:bg Tryz.prog 7 [[3,4,17,18,19],[3,4,6,13,14,17,18,19]]=some WF7:=by kernel_rfl
theorem azx:WF7.code.bW=true:=by kernel_rfl
noncomputable def aqJ:cO:=(cL (cK (cB (cA (cB (cB (cB WF7.code)))))))
theorem aqK:aqJ.bW=true:=by kernel_rfl
noncomputable def G7:cO:=(cA (cB (cB (cB (cK (cA (cB (cB (cL (cK (cB (cA (cB (cB (cB WF7.code)))))))))))))))
theorem Og:G7.bW=true:=by kernel_rfl
noncomputable def aqL:cO:=(cL (cK (cB (cA (cB (cF (cB (cF (cB (cF (cB (cK (cB (cA (cB (cB (cB (cK (cA (cB (cB (cL (cK (cB (cA (cB (cB (cB WF7.code))))))))))))))))))))))))))))
theorem aqM:aqL.bW=true:=by kernel_rfl
noncomputable def rJ:cO:=(cA (cL (cK (cB (cA (cB (cF (cB (cF (cB (cF (cB (cK (cB (cA (cB (cB (cB (cK (cA (cB (cB (cL (cK (cB (cA (cB (cB (cB WF7.code)))))))))))))))))))))))))))))
theorem zV:rJ.bW=true:=by kernel_rfl
noncomputable def WF8:bY:={ nargs:=2,ntmps:=154,code:=codeOf (bg Tryz.prog 8 [[1,2,4,5,6]]),results:=[(.cell 4 true 23)] }
theorem azy:bg Tryz.prog 8 [[1,2,4,5,6]]=some WF8:=by kernel_rfl
theorem azz:WF8.code.bW=true:=by kernel_rfl
noncomputable def acF:cO:=(cA (cB (cB (cB WF8.code))))
theorem Z6:acF.bW=true:=by kernel_rfl
noncomputable def aiY:cO:=(cL (cK (cB (cA (cB (cB (cB (cB WF8.code))))))))
theorem aiZ:aiY.bW=true:=by kernel_rfl
noncomputable def Li:cO:=(cA (cL (cK (cB (cA (cB (cB (cB (cB WF8.code)))))))))
theorem MH:Li.bW=true:=by kernel_rfl
noncomputable def U8:cO:=(cA (cB (cB (cB (cB (cB WF8.code))))))
theorem Ui:U8.bW=true:=by kernel_rfl
noncomputable def QH:cO:=(cA (cA (cB (cB (cB (cB (cB WF8.code)))))))
theorem QI:QH.bW=true:=by kernel_rfl
noncomputable def WF9:bY:={ nargs:=1,ntmps:=82,code:=codeOf (bg Tryz.prog 9 [[1,3,4]]),results:=[(.tmp 2)] }
theorem azA:bg Tryz.prog 9 [[1,3,4]]=some WF9:=by kernel_rfl
theorem azB:WF9.code.bW=true:=by kernel_rfl
noncomputable def aqN:cO:=(cL (cK (cB (cA (cB (cB (cB (cB (cB (cB WF9.code))))))))))
theorem aqO:aqN.bW=true:=by kernel_rfl
noncomputable def ai0:bY:={ nargs:=1,ntmps:=46,code:=codeOf (bg Tryz.prog 10 []),results:=[(.tmp 2)] }
theorem avl:bg Tryz.prog 10 []=some ai0:=by kernel_rfl
theorem avm:ai0.code.bW=true:=by kernel_rfl
noncomputable def ai1:cO:=(cA (cB (cB ai0.code)))
theorem ai2:ai1.bW=true:=by kernel_rfl
noncomputable def acG:cO:=(cA (cK (cA (cB (cB ai0.code)))))
theorem aep:acG.bW=true:=by kernel_rfl
noncomputable def Z7:cO:=(cA (cA (cK (cA (cB (cB ai0.code))))))
theorem acH:Z7.bW=true:=by kernel_rfl
noncomputable def ag6:bY:={ nargs:=1,ntmps:=120,code:=codeOf (bg Tryz.prog 11 [[1,60,61],[1,5],[1,6]]),results:=[(.tmp 2)] }
theorem avn:bg Tryz.prog 11 [[1,60,61],[1,5],[1,6]]=some ag6:=by kernel_rfl
theorem avo:ag6.code.bW=true:=by kernel_rfl
noncomputable def anx:cO:=(cA (cB ag6.code))
theorem alh:anx.bW=true:=by kernel_rfl
noncomputable def ali:cO:=(cL (cK (cB (cA (cB (cB ag6.code))))))
theorem aon:ali.bW=true:=by kernel_rfl
noncomputable def alj:cO:=(cL (cK (cB (cA (cB (cB (cB ag6.code)))))))
theorem aoo:alj.bW=true:=by kernel_rfl
noncomputable def alk:cO:=(cL (cK (cB (cA (cB (cB (cB (cB ag6.code))))))))
theorem aoq:alk.bW=true:=by kernel_rfl
noncomputable def aor:bY:={ nargs:=1,ntmps:=65,code:=codeOf (bg Tryz.prog 12 [[1,3,40,41,42]]),results:=[(.tmp 2)] }
theorem avp:bg Tryz.prog 12 [[1,3,40,41,42]]=some aor:=by kernel_rfl
theorem avq:aor.code.bW=true:=by kernel_rfl
noncomputable def alm:cO:=(cL (cK (cB (cA (cB (cB (cB (cB (cB (cB aor.code))))))))))
theorem aos:alm.bW=true:=by kernel_rfl
noncomputable def aqP:bY:={ nargs:=2,ntmps:=52,code:=codeOf (bg Tryz.prog 13 []),results:=[(.tmp 4)] }
theorem avr:bg Tryz.prog 13 []=some aqP:=by kernel_rfl
theorem avt:aqP.code.bW=true:=by kernel_rfl
noncomputable def aln:bY:={ nargs:=2,ntmps:=121,code:=codeOf (bg Tryz.prog 14 [[2,3,5]]),results:=[(.tmp 4)] }
theorem avu:bg Tryz.prog 14 [[2,3,5]]=some aln:=by kernel_rfl
theorem avv:aln.code.bW=true:=by kernel_rfl
noncomputable def anz:cO:=(cA (cB aln.code))
theorem alp:anz.bW=true:=by kernel_rfl
noncomputable def alq:cO:=(cL (cK (cB (cA (cB (cB aln.code))))))
theorem aot:alq.bW=true:=by kernel_rfl
noncomputable def aqQ:bY:={ nargs:=2,ntmps:=14,code:=codeOf (bg Tryz.prog 16 []),results:=[(.tmp 4)] }
theorem avw:bg Tryz.prog 16 []=some aqQ:=by kernel_rfl
theorem avx:aqQ.code.bW=true:=by kernel_rfl
noncomputable def alr:bY:={ nargs:=1,ntmps:=43,code:=codeOf (bg Tryz.prog 17 []),results:=[(.cell 2 true 23),(.tmp 3)] }
theorem avy:bg Tryz.prog 17 []=some alr:=by kernel_rfl
theorem avz:alr.code.bW=true:=by kernel_rfl
noncomputable def afK:cO:=(cA (cB (cB (cB alr.code))))
theorem ag7:afK.bW=true:=by kernel_rfl
noncomputable def acI:cO:=(cA (cA (cB (cB (cB alr.code)))))
theorem aer:acI.bW=true:=by kernel_rfl
noncomputable def acJ:bY:={ nargs:=1,ntmps:=120,code:=codeOf (bg Tryz.prog 18 [[2,4,5,6],[2,4,5,7]]),results:=[(.cell 2 true 23),(.tmp 3)] }
theorem avA:bg Tryz.prog 18 [[2,4,5,6],[2,4,5,7]]=some acJ:=by kernel_rfl
theorem avB:acJ.code.bW=true:=by kernel_rfl
noncomputable def als:cO:=(cL (cK (cB (cA (cB (cB (cB (cB (cB acJ.code)))))))))
theorem aou:als.bW=true:=by kernel_rfl
noncomputable def OY:cO:=(cA (cL (cK (cB (cA (cB (cB (cB (cB (cB acJ.code))))))))))
theorem U9:OY.bW=true:=by kernel_rfl
noncomputable def alu:cO:=(cL (cK (cB (cA (cB (cB (cB (cB (cB (cB acJ.code))))))))))
theorem aov:alu.bW=true:=by kernel_rfl
noncomputable def MI:cO:=(cA (cL (cK (cB (cA (cB (cB (cB (cB (cB (cB acJ.code)))))))))))
theorem Tn:MI.bW=true:=by kernel_rfl
noncomputable def QJ:cO:=(cA (cB (cB (cB (cB (cB (cB (cB (cB acJ.code)))))))))
theorem WJ:QJ.bW=true:=by kernel_rfl
noncomputable def OZ:cO:=(cA (cA (cB (cB (cB (cB (cB (cB (cB (cB acJ.code))))))))))
theorem U_:OZ.bW=true:=by kernel_rfl
noncomputable def alv:bY:={ nargs:=2,ntmps:=39,code:=codeOf (bg Tryz.prog 20 [[0,5,8,9,10]]),results:=[(.tmp 4)] }
theorem avC:bg Tryz.prog 20 [[0,5,8,9,10]]=some alv:=by kernel_rfl
theorem avD:alv.code.bW=true:=by kernel_rfl
noncomputable def acK:cO:=(cL (cK (cB (cA (cB (cB alv.code))))))
theorem afL:acK.bW=true:=by kernel_rfl
noncomputable def CU:cO:=(cA (cB (cK (cA (cB (cB (cL (cK (cB (cA (cB (cB alv.code))))))))))))
theorem FI:CU.bW=true:=by kernel_rfl
noncomputable def aow:bY:={ nargs:=3,ntmps:=43,code:=codeOf (bg Tryz.prog 21 []),results:=[(.tmp 6)] }
theorem avE:bg Tryz.prog 21 []=some aow:=by kernel_rfl
theorem avF:aow.code.bW=true:=by kernel_rfl
noncomputable def anA:cO:=(cA (cB aow.code))
theorem alx:anA.bW=true:=by kernel_rfl
noncomputable def aqR:bY:={ nargs:=2,ntmps:=36,code:=codeOf (bg Tryz.prog 22 []),results:=[(.cell 4 true 23),(.tmp 5)] }
theorem avG:bg Tryz.prog 22 []=some aqR:=by kernel_rfl
theorem avH:aqR.code.bW=true:=by kernel_rfl
noncomputable def aqS:bY:={ nargs:=0,ntmps:=28,code:=codeOf (bg Tryz.prog 23 []),results:=[(.tmp 0)] }
theorem avI:bg Tryz.prog 23 []=some aqS:=by kernel_rfl
theorem avJ:aqS.code.bW=true:=by kernel_rfl
noncomputable def aqT:bY:={ nargs:=1,ntmps:=8,code:=codeOf (bg Tryz.prog 24 []),results:=[(.tmp 2)] }
theorem avK:bg Tryz.prog 24 []=some aqT:=by kernel_rfl
theorem avL:aqT.code.bW=true:=by kernel_rfl
noncomputable def aox:bY:={ nargs:=1,ntmps:=29,code:=codeOf (bg Tryz.prog 25 [[3,11,12,13]]),results:=[(.tmp 2)] }
theorem avM:bg Tryz.prog 25 [[3,11,12,13]]=some aox:=by kernel_rfl
theorem avN:aox.code.bW=true:=by kernel_rfl
noncomputable def aly:cO:=(cL (cK (cB (cA (cB (cB aox.code))))))
theorem aoy:aly.bW=true:=by kernel_rfl
noncomputable def aqU:bY:={ nargs:=2,ntmps:=39,code:=codeOf (bg Tryz.prog 26 []),results:=[(.cell 4 true 23),(.tmp 5)] }
theorem avO:bg Tryz.prog 26 []=some aqU:=by kernel_rfl
theorem avP:aqU.code.bW=true:=by kernel_rfl
noncomputable def aoz:bY:={ nargs:=2,ntmps:=33,code:=codeOf (bg Tryz.prog 27 []),results:=[(.tmp 4)] }
theorem avQ:bg Tryz.prog 27 []=some aoz:=by kernel_rfl
theorem avR:aoz.code.bW=true:=by kernel_rfl
noncomputable def anB:cO:=(cA (cB aoz.code))
theorem alz:anB.bW=true:=by kernel_rfl
noncomputable def aqV:bY:={ nargs:=2,ntmps:=21,code:=codeOf (bg Tryz.prog 28 []),results:=[(.tmp 4)] }
theorem avS:bg Tryz.prog 28 []=some aqV:=by kernel_rfl
theorem avT:aqV.code.bW=true:=by kernel_rfl
noncomputable def aoA:bY:={ nargs:=3,ntmps:=48,code:=codeOf (bg Tryz.prog 29 []),results:=[(.tmp 6)] }
theorem avU:bg Tryz.prog 29 []=some aoA:=by kernel_rfl
theorem avV:aoA.code.bW=true:=by kernel_rfl
noncomputable def anC:cO:=(cA (cB aoA.code))
theorem alA:anC.bW=true:=by kernel_rfl
noncomputable def alB:bY:={ nargs:=2,ntmps:=52,code:=codeOf (bg Tryz.prog 30 [[0,1,5,6]]),results:=[(.tmp 4)] }
theorem avW:bg Tryz.prog 30 [[0,1,5,6]]=some alB:=by kernel_rfl
theorem avX:alB.code.bW=true:=by kernel_rfl
noncomputable def alC:cO:=(cL (cK (cB (cA (cB (cB alB.code))))))
theorem aoB:alC.bW=true:=by kernel_rfl
noncomputable def O4:cO:=(cA (cK (cA (cB (cL (cK (cB (cA (cB (cB alB.code))))))))))
theorem Va:O4.bW=true:=by kernel_rfl
noncomputable def aoC:bY:={ nargs:=2,ntmps:=27,code:=codeOf (bg Tryz.prog 31 [[0,1,5]]),results:=[(.tmp 4)] }
theorem avY:bg Tryz.prog 31 [[0,1,5]]=some aoC:=by kernel_rfl
theorem avZ:aoC.code.bW=true:=by kernel_rfl
noncomputable def alD:cO:=(cL (cK (cB (cA (cB (cB aoC.code))))))
theorem aoD:alD.bW=true:=by kernel_rfl
noncomputable def aqW:bY:={ nargs:=1,ntmps:=7,code:=codeOf (bg Tryz.prog 32 []),results:=[(.tmp 2)] }
theorem av0:bg Tryz.prog 32 []=some aqW:=by kernel_rfl
theorem av1:aqW.code.bW=true:=by kernel_rfl
noncomputable def alE:bY:={ nargs:=2,ntmps:=27,code:=codeOf (bg Tryz.prog 33 [[0,1,5,6]]),results:=[(.tmp 4)] }
theorem av2:bg Tryz.prog 33 [[0,1,5,6]]=some alE:=by kernel_rfl
theorem av3:alE.code.bW=true:=by kernel_rfl
noncomputable def acL:cO:=(cL (cK (cB (cA (cB (cB alE.code))))))
theorem afM:acL.bW=true:=by kernel_rfl
noncomputable def Oh:cO:=(cA (cL (cK (cB (cA (cB (cB alE.code)))))))
theorem O5:Oh.bW=true:=by kernel_rfl
noncomputable def aqX:bY:={ nargs:=1,ntmps:=66,code:=codeOf (bg Tryz.prog 34 []),results:=[(.cell 2 true 6)] }
theorem av4:bg Tryz.prog 34 []=some aqX:=by kernel_rfl
theorem av5:aqX.code.bW=true:=by kernel_rfl
noncomputable def aqY:bY:={ nargs:=1,ntmps:=9,code:=codeOf (bg Tryz.prog 35 []),results:=[(.tmp 2)] }
theorem av6:bg Tryz.prog 35 []=some aqY:=by kernel_rfl
theorem av7:aqY.code.bW=true:=by kernel_rfl
noncomputable def alF:bY:={ nargs:=4,ntmps:=113,code:=codeOf (bg Tryz.prog 36 [[2,3,8,9,10]]),results:=[(.cell 8 true 4)] }
theorem av8:bg Tryz.prog 36 [[2,3,8,9,10]]=some alF:=by kernel_rfl
theorem av9:alF.code.bW=true:=by kernel_rfl
noncomputable def acM:cO:=(cL (cK (cB (cA (cB (cB alF.code))))))
theorem afN:acM.bW=true:=by kernel_rfl
noncomputable def Oi:cO:=(cA (cL (cK (cB (cA (cB (cB alF.code)))))))
theorem O6:Oi.bW=true:=by kernel_rfl
noncomputable def aoE:bY:={ nargs:=1,ntmps:=35,code:=codeOf (bg Tryz.prog 37 []),results:=[(.tmp 2)] }
theorem awc:bg Tryz.prog 37 []=some aoE:=by kernel_rfl
theorem awd:aoE.code.bW=true:=by kernel_rfl
noncomputable def acN:cO:=(cA (cK (cB (cA (cB aoE.code)))))
theorem aes:acN.bW=true:=by kernel_rfl
noncomputable def alG:bY:={ nargs:=2,ntmps:=41,code:=codeOf (bg Tryz.prog 38 [[1,5,6],[1,5,6,7]]),results:=[(.tmp 4)] }
theorem awe:bg Tryz.prog 38 [[1,5,6],[1,5,6,7]]=some alG:=by kernel_rfl
theorem awf:alG.code.bW=true:=by kernel_rfl
noncomputable def acO:cO:=(cL (cK (cB (cA (cB (cB alG.code))))))
theorem afO:acO.bW=true:=by kernel_rfl
noncomputable def acP:cO:=(cL (cK (cA (cB (cB (cK (cA (cB (cL (cK (cB (cA (cB (cB alG.code))))))))))))))
theorem afP:acP.bW=true:=by kernel_rfl
noncomputable def aqZ:bY:={ nargs:=1,ntmps:=4,code:=codeOf (bg Tryz.prog 39 []),results:=[(.tmp 2)] }
theorem awg:bg Tryz.prog 39 []=some aqZ:=by kernel_rfl
theorem awh:aqZ.code.bW=true:=by kernel_rfl
noncomputable def aq0:bY:={ nargs:=2,ntmps:=17,code:=codeOf (bg Tryz.prog 40 []),results:=[(.tmp 4)] }
theorem awi:bg Tryz.prog 40 []=some aq0:=by kernel_rfl
theorem awj:aq0.code.bW=true:=by kernel_rfl
noncomputable def aq1:bY:={ nargs:=2,ntmps:=29,code:=codeOf (bg Tryz.prog 41 []),results:=[(.tmp 4)] }
theorem awk:bg Tryz.prog 41 []=some aq1:=by kernel_rfl
theorem awl:aq1.code.bW=true:=by kernel_rfl
noncomputable def alH:bY:={ nargs:=2,ntmps:=79,code:=codeOf (bg Tryz.prog 42 [[3,5,6],[3,5,7]]),results:=[(.tmp 4)] }
theorem awm:bg Tryz.prog 42 [[3,5,6],[3,5,7]]=some alH:=by kernel_rfl
theorem awn:alH.code.bW=true:=by kernel_rfl
noncomputable def alI:cO:=(cL (cK (cB (cA (cB (cB (cB alH.code)))))))
theorem aoF:alI.bW=true:=by kernel_rfl
noncomputable def alJ:cO:=(cL (cK (cB (cA (cB (cB (cB (cB (cB alH.code)))))))))
theorem aoG:alJ.bW=true:=by kernel_rfl
noncomputable def aq2:bY:={ nargs:=1,ntmps:=6,code:=codeOf (bg Tryz.prog 43 []),results:=[(.tmp 2)] }
theorem awo:bg Tryz.prog 43 []=some aq2:=by kernel_rfl
theorem awp:aq2.code.bW=true:=by kernel_rfl
noncomputable def aq3:bY:={ nargs:=1,ntmps:=9,code:=codeOf (bg Tryz.prog 44 []),results:=[(.tmp 2)] }
theorem awq:bg Tryz.prog 44 []=some aq3:=by kernel_rfl
theorem awr:aq3.code.bW=true:=by kernel_rfl
noncomputable def aq4:bY:={ nargs:=2,ntmps:=9,code:=codeOf (bg Tryz.prog 45 []),results:=[(.tmp 4)] }
theorem awt:bg Tryz.prog 45 []=some aq4:=by kernel_rfl
theorem awu:aq4.code.bW=true:=by kernel_rfl
noncomputable def aq5:bY:={ nargs:=1,ntmps:=20,code:=codeOf (bg Tryz.prog 46 []),results:=[(.tmp 2)] }
theorem awv:bg Tryz.prog 46 []=some aq5:=by kernel_rfl
theorem aww:aq5.code.bW=true:=by kernel_rfl
noncomputable def aq6:bY:={ nargs:=2,ntmps:=9,code:=codeOf (bg Tryz.prog 47 []),results:=[(.tmp 4)] }
theorem awx:bg Tryz.prog 47 []=some aq6:=by kernel_rfl
theorem awy:aq6.code.bW=true:=by kernel_rfl
noncomputable def aq7:bY:={ nargs:=1,ntmps:=29,code:=codeOf (bg Tryz.prog 48 []),results:=[(.tmp 2)] }
theorem awz:bg Tryz.prog 48 []=some aq7:=by kernel_rfl
theorem awC:aq7.code.bW=true:=by kernel_rfl
noncomputable def aq8:bY:={ nargs:=1,ntmps:=29,code:=codeOf (bg Tryz.prog 49 []),results:=[(.tmp 2)] }
theorem awD:bg Tryz.prog 49 []=some aq8:=by kernel_rfl
theorem awE:aq8.code.bW=true:=by kernel_rfl
noncomputable def aq9:bY:={ nargs:=1,ntmps:=17,code:=codeOf (bg Tryz.prog 50 []),results:=[(.tmp 2)] }
theorem awF:bg Tryz.prog 50 []=some aq9:=by kernel_rfl
theorem awG:aq9.code.bW=true:=by kernel_rfl
noncomputable def ara:bY:={ nargs:=1,ntmps:=9,code:=codeOf (bg Tryz.prog 51 []),results:=[(.tmp 2)] }
theorem awH:bg Tryz.prog 51 []=some ara:=by kernel_rfl
theorem awI:ara.code.bW=true:=by kernel_rfl
noncomputable def arb:bY:={ nargs:=1,ntmps:=17,code:=codeOf (bg Tryz.prog 52 []),results:=[(.tmp 2)] }
theorem awJ:bg Tryz.prog 52 []=some arb:=by kernel_rfl
theorem awK:arb.code.bW=true:=by kernel_rfl
noncomputable def ard:bY:={ nargs:=1,ntmps:=9,code:=codeOf (bg Tryz.prog 53 []),results:=[(.tmp 2)] }
theorem awL:bg Tryz.prog 53 []=some ard:=by kernel_rfl
theorem awM:ard.code.bW=true:=by kernel_rfl
noncomputable def arf:bY:={ nargs:=1,ntmps:=9,code:=codeOf (bg Tryz.prog 54 []),results:=[(.tmp 2)] }
theorem awN:bg Tryz.prog 54 []=some arf:=by kernel_rfl
theorem awO:arf.code.bW=true:=by kernel_rfl
noncomputable def ai3:bY:={ nargs:=2,ntmps:=41,code:=codeOf (bg Tryz.prog 55 [[5,10,11,12],[5,7,10,11,12]]),results:=[(.tmp 4)] }
theorem awP:bg Tryz.prog 55 [[5,10,11,12],[5,7,10,11,12]]=some ai3:=by kernel_rfl
theorem awQ:ai3.code.bW=true:=by kernel_rfl
noncomputable def acQ:cO:=(cL (cK (cB (cA (cB (cB ai3.code))))))
theorem afQ:acQ.bW=true:=by kernel_rfl
noncomputable def CV:cO:=(cA (cB (cK (cA (cB (cB (cL (cK (cB (cA (cB (cB ai3.code))))))))))))
theorem FJ:CV.bW=true:=by kernel_rfl
noncomputable def acR:cO:=(cL (cK (cA (cB (cB (cK (cA (cB (cB (cL (cK (cB (cA (cB (cB ai3.code)))))))))))))))
theorem afR:acR.bW=true:=by kernel_rfl
noncomputable def arh:bY:={ nargs:=1,ntmps:=4,code:=codeOf (bg Tryz.prog 56 []),results:=[(.tmp 2)] }
theorem awR:bg Tryz.prog 56 []=some arh:=by kernel_rfl
theorem awS:arh.code.bW=true:=by kernel_rfl
noncomputable def ari:bY:={ nargs:=2,ntmps:=17,code:=codeOf (bg Tryz.prog 57 []),results:=[(.tmp 4)] }
theorem awT:bg Tryz.prog 57 []=some ari:=by kernel_rfl
theorem awU:ari.code.bW=true:=by kernel_rfl
noncomputable def arj:bY:={ nargs:=2,ntmps:=29,code:=codeOf (bg Tryz.prog 58 []),results:=[(.tmp 4)] }
theorem awV:bg Tryz.prog 58 []=some arj:=by kernel_rfl
theorem awW:arj.code.bW=true:=by kernel_rfl
noncomputable def alK:bY:={ nargs:=2,ntmps:=63,code:=codeOf (bg Tryz.prog 59 [[3,5,24,25,26],[5,45,46,47]]),results:=[(.tmp 4)] }
theorem awX:bg Tryz.prog 59 [[3,5,24,25,26],[5,45,46,47]]=some alK:=by kernel_rfl
theorem awY:alK.code.bW=true:=by kernel_rfl
noncomputable def alL:cO:=(cL (cK (cB (cA (cB (cB (cB alK.code)))))))
theorem aoH:alL.bW=true:=by kernel_rfl
noncomputable def alM:cO:=(cL (cK (cB (cA (cB (cB (cB (cB (cB alK.code)))))))))
theorem aoI:alM.bW=true:=by kernel_rfl
noncomputable def aoJ:bY:={ nargs:=2,ntmps:=26,code:=codeOf (bg Tryz.prog 60 [[0,1,12,13]]),results:=[(.tmp 4)] }
theorem awZ:bg Tryz.prog 60 [[0,1,12,13]]=some aoJ:=by kernel_rfl
theorem aw0:aoJ.code.bW=true:=by kernel_rfl
noncomputable def alN:cO:=(cL (cK (cB (cA (cB (cB aoJ.code))))))
theorem aoK:alN.bW=true:=by kernel_rfl
noncomputable def aoL:bY:={ nargs:=2,ntmps:=26,code:=codeOf (bg Tryz.prog 61 [[0,1,12,13]]),results:=[(.tmp 4)] }
theorem aw1:bg Tryz.prog 61 [[0,1,12,13]]=some aoL:=by kernel_rfl
theorem aw2:aoL.code.bW=true:=by kernel_rfl
noncomputable def alO:cO:=(cL (cK (cB (cA (cB (cB aoL.code))))))
theorem aoM:alO.bW=true:=by kernel_rfl
noncomputable def ark:bY:={ nargs:=2,ntmps:=31,code:=codeOf (bg Tryz.prog 62 []),results:=[(.tmp 4)] }
theorem aw3:bg Tryz.prog 62 []=some ark:=by kernel_rfl
theorem aw4:ark.code.bW=true:=by kernel_rfl
noncomputable def aoN:bY:={ nargs:=2,ntmps:=26,code:=codeOf (bg Tryz.prog 63 [[0,1,5]]),results:=[(.tmp 4)] }
theorem aw5:bg Tryz.prog 63 [[0,1,5]]=some aoN:=by kernel_rfl
theorem aw6:aoN.code.bW=true:=by kernel_rfl
noncomputable def alP:cO:=(cL (cK (cB (cA (cB (cB aoN.code))))))
theorem aoO:alP.bW=true:=by kernel_rfl
noncomputable def ai4:bY:={ nargs:=2,ntmps:=73,code:=codeOf (bg Tryz.prog 64 [[2,3,5],[2,3,6]]),results:=[(.tmp 4)] }
theorem aw7:bg Tryz.prog 64 [[2,3,5],[2,3,6]]=some ai4:=by kernel_rfl
theorem aw8:ai4.code.bW=true:=by kernel_rfl
noncomputable def anD:cO:=(cA (cB ai4.code))
theorem alQ:anD.bW=true:=by kernel_rfl
noncomputable def alR:cO:=(cL (cK (cB (cA (cB (cB ai4.code))))))
theorem aoP:alR.bW=true:=by kernel_rfl
noncomputable def alS:cO:=(cL (cK (cB (cA (cB (cB (cB ai4.code)))))))
theorem aoQ:alS.bW=true:=by kernel_rfl
noncomputable def ai5:bY:={ nargs:=1,ntmps:=128,code:=codeOf (bg Tryz.prog 65 [[0,2,91,92]]),results:=[(.cell 2 true 23)] }
theorem aw9:bg Tryz.prog 65 [[0,2,91,92]]=some ai5:=by kernel_rfl
theorem axa:ai5.code.bW=true:=by kernel_rfl
noncomputable def acS:cO:=(cA (cB (cB (cB (cB ai5.code)))))
theorem aeu:acS.bW=true:=by kernel_rfl
noncomputable def Z8:cO:=(cA (cB (cB (cB (cB (cB ai5.code))))))
theorem acT:Z8.bW=true:=by kernel_rfl
noncomputable def alT:cO:=(cL (cK (cB (cA (cB (cB (cB (cB (cB (cB (cB ai5.code)))))))))))
theorem aoR:alT.bW=true:=by kernel_rfl
noncomputable def arl:bY:={ nargs:=1,ntmps:=29,code:=codeOf (bg Tryz.prog 66 []),results:=[(.tmp 2)] }
theorem axb:bg Tryz.prog 66 []=some arl:=by kernel_rfl
theorem axc:arl.code.bW=true:=by kernel_rfl
noncomputable def arn:bY:={ nargs:=1,ntmps:=6,code:=codeOf (bg Tryz.prog 67 []),results:=[(.tmp 2)] }
theorem axd:bg Tryz.prog 67 []=some arn:=by kernel_rfl
theorem axe:arn.code.bW=true:=by kernel_rfl
noncomputable def aro:bY:={ nargs:=1,ntmps:=31,code:=codeOf (bg Tryz.prog 68 []),results:=[(.cell 2 true 6)] }
theorem axf:bg Tryz.prog 68 []=some aro:=by kernel_rfl
theorem axg:aro.code.bW=true:=by kernel_rfl
noncomputable def arp:bY:={ nargs:=1,ntmps:=15,code:=codeOf (bg Tryz.prog 69 []),results:=[(.cell 2 true 2)] }
theorem axh:bg Tryz.prog 69 []=some arp:=by kernel_rfl
theorem axi:arp.code.bW=true:=by kernel_rfl
noncomputable def aoS:bY:={ nargs:=2,ntmps:=19,code:=codeOf (bg Tryz.prog 70 []),results:=[(.tmp 4)] }
theorem axj:bg Tryz.prog 70 []=some aoS:=by kernel_rfl
theorem axk:aoS.code.bW=true:=by kernel_rfl
noncomputable def ai6:cO:=(cA (cB (cB aoS.code)))
theorem ai7:ai6.bW=true:=by kernel_rfl
noncomputable def ag8:bY:={ nargs:=1,ntmps:=65,code:=codeOf (bg Tryz.prog 71 [[0,2,3,4],[0,2,3,5]]),results:=[(.cell 2 true 4)] }
theorem axl:bg Tryz.prog 71 [[0,2,3,4],[0,2,3,5]]=some ag8:=by kernel_rfl
theorem axn:ag8.code.bW=true:=by kernel_rfl
noncomputable def alU:cO:=(cL (cK (cB (cA (cB (cB ag8.code))))))
theorem aoT:alU.bW=true:=by kernel_rfl
noncomputable def WK:cO:=(cA (cL (cK (cB (cA (cB (cB ag8.code)))))))
theorem aaC:WK.bW=true:=by kernel_rfl
noncomputable def alV:cO:=(cL (cK (cB (cA (cB (cB (cB ag8.code)))))))
theorem aoU:alV.bW=true:=by kernel_rfl
noncomputable def Uj:cO:=(cA (cL (cK (cB (cA (cB (cB (cB ag8.code))))))))
theorem YH:Uj.bW=true:=by kernel_rfl
noncomputable def arq:bY:={ nargs:=2,ntmps:=16,code:=codeOf (bg Tryz.prog 72 []),results:=[(.tmp 4)] }
theorem axo:bg Tryz.prog 72 []=some arq:=by kernel_rfl
theorem axp:arq.code.bW=true:=by kernel_rfl
noncomputable def ars:bY:={ nargs:=3,ntmps:=33,code:=codeOf (bg Tryz.prog 73 []),results:=[(.tmp 6)] }
theorem axq:bg Tryz.prog 73 []=some ars:=by kernel_rfl
theorem axr:ars.code.bW=true:=by kernel_rfl
noncomputable def aru:bY:={ nargs:=1,ntmps:=9,code:=codeOf (bg Tryz.prog 74 []),results:=[(.tmp 2)] }
theorem axt:bg Tryz.prog 74 []=some aru:=by kernel_rfl
theorem axu:aru.code.bW=true:=by kernel_rfl
noncomputable def arv:bY:={ nargs:=2,ntmps:=16,code:=codeOf (bg Tryz.prog 75 []),results:=[(.tmp 4)] }
theorem axv:bg Tryz.prog 75 []=some arv:=by kernel_rfl
theorem axw:arv.code.bW=true:=by kernel_rfl
noncomputable def arw:bY:={ nargs:=1,ntmps:=28,code:=codeOf (bg Tryz.prog 76 []),results:=[(.cell 2 true 5)] }
theorem axx:bg Tryz.prog 76 []=some arw:=by kernel_rfl
theorem axy:arw.code.bW=true:=by kernel_rfl
noncomputable def alW:bY:={ nargs:=4,ntmps:=34,code:=codeOf (bg Tryz.prog 77 []),results:=[(.cell 8 true 4)] }
theorem axz:bg Tryz.prog 77 []=some alW:=by kernel_rfl
theorem axA:alW.code.bW=true:=by kernel_rfl
noncomputable def ai8:cO:=(cA (cB (cB alW.code)))
theorem ai9:ai8.bW=true:=by kernel_rfl
noncomputable def afS:cO:=(cA (cA (cB (cB alW.code))))
theorem ag9:afS.bW=true:=by kernel_rfl
noncomputable def arx:bY:={ nargs:=2,ntmps:=13,code:=codeOf (bg Tryz.prog 78 []),results:=[(.tmp 4)] }
theorem axB:bg Tryz.prog 78 []=some arx:=by kernel_rfl
theorem axC:arx.code.bW=true:=by kernel_rfl
noncomputable def arz:bY:={ nargs:=1,ntmps:=6,code:=codeOf (bg Tryz.prog 79 []),results:=[(.tmp 2)] }
theorem axD:bg Tryz.prog 79 []=some arz:=by kernel_rfl
theorem axE:arz.code.bW=true:=by kernel_rfl
noncomputable def arA:bY:={ nargs:=1,ntmps:=26,code:=codeOf (bg Tryz.prog 80 []),results:=[(.tmp 2)] }
theorem axF:bg Tryz.prog 80 []=some arA:=by kernel_rfl
theorem axG:arA.code.bW=true:=by kernel_rfl
noncomputable def arB:bY:={ nargs:=1,ntmps:=15,code:=codeOf (bg Tryz.prog 81 []),results:=[(.tmp 2)] }
theorem axH:bg Tryz.prog 81 []=some arB:=by kernel_rfl
theorem axI:arB.code.bW=true:=by kernel_rfl
noncomputable def arC:bY:={ nargs:=2,ntmps:=54,code:=codeOf (bg Tryz.prog 82 []),results:=[(.cell 4 true 2),(.tmp 5)] }
theorem axJ:bg Tryz.prog 82 []=some arC:=by kernel_rfl
theorem axK:arC.code.bW=true:=by kernel_rfl
noncomputable def arD:bY:={ nargs:=1,ntmps:=26,code:=codeOf (bg Tryz.prog 83 []),results:=[(.cell 2 true 4)] }
theorem axL:bg Tryz.prog 83 []=some arD:=by kernel_rfl
theorem axM:arD.code.bW=true:=by kernel_rfl
noncomputable def arE:bY:={ nargs:=1,ntmps:=7,code:=codeOf (bg Tryz.prog 84 []),results:=[(.tmp 2)] }
theorem axN:bg Tryz.prog 84 []=some arE:=by kernel_rfl
theorem axO:arE.code.bW=true:=by kernel_rfl
noncomputable def aoV:bY:={ nargs:=2,ntmps:=30,code:=codeOf (bg Tryz.prog 85 [[1,5,6]]),results:=[(.tmp 4)] }
theorem axP:bg Tryz.prog 85 [[1,5,6]]=some aoV:=by kernel_rfl
theorem axQ:aoV.code.bW=true:=by kernel_rfl
noncomputable def alX:cO:=(cL (cK (cB (cA (cB (cB aoV.code))))))
theorem aoW:alX.bW=true:=by kernel_rfl
noncomputable def aoX:bY:={ nargs:=2,ntmps:=19,code:=codeOf (bg Tryz.prog 86 [[0,1,7,8]]),results:=[(.tmp 4)] }
theorem axR:bg Tryz.prog 86 [[0,1,7,8]]=some aoX:=by kernel_rfl
theorem axS:aoX.code.bW=true:=by kernel_rfl
noncomputable def alY:cO:=(cL (cK (cB (cA (cB aoX.code)))))
theorem aoY:alY.bW=true:=by kernel_rfl
noncomputable def aoZ:bY:={ nargs:=2,ntmps:=19,code:=codeOf (bg Tryz.prog 87 [[0,1,7,8]]),results:=[(.tmp 4)] }
theorem axT:bg Tryz.prog 87 [[0,1,7,8]]=some aoZ:=by kernel_rfl
theorem axU:aoZ.code.bW=true:=by kernel_rfl
noncomputable def alZ:cO:=(cL (cK (cB (cA (cB aoZ.code)))))
theorem ao0:alZ.bW=true:=by kernel_rfl
noncomputable def aha:bY:={ nargs:=1,ntmps:=53,code:=codeOf (bg Tryz.prog 88 []),results:=[(.tmp 2)] }
theorem axV:bg Tryz.prog 88 []=some aha:=by kernel_rfl
theorem axW:aha.code.bW=true:=by kernel_rfl
noncomputable def anE:cO:=(cA (cB aha.code))
theorem al0:anE.bW=true:=by kernel_rfl
noncomputable def aja:cO:=(cA (cB (cB aha.code)))
theorem ajb:aja.bW=true:=by kernel_rfl
noncomputable def acU:cO:=(cA (cK (cA (cB (cB aha.code)))))
theorem aev:acU.bW=true:=by kernel_rfl
noncomputable def Z9:cO:=(cA (cA (cK (cA (cB (cB aha.code))))))
theorem acV:Z9.bW=true:=by kernel_rfl
noncomputable def arF:bY:={ nargs:=1,ntmps:=23,code:=codeOf (bg Tryz.prog 89 []),results:=[(.tmp 2)] }
theorem axX:bg Tryz.prog 89 []=some arF:=by kernel_rfl
theorem axY:arF.code.bW=true:=by kernel_rfl
noncomputable def al1:bY:={ nargs:=1,ntmps:=44,code:=codeOf (bg Tryz.prog 90 []),results:=[(.tmp 2)] }
theorem axZ:bg Tryz.prog 90 []=some al1:=by kernel_rfl
theorem ax0:al1.code.bW=true:=by kernel_rfl
noncomputable def anF:cO:=(cA (cB al1.code))
theorem al2:anF.bW=true:=by kernel_rfl
noncomputable def afT:cO:=(cA (cB (cB (cB al1.code))))
theorem ahb:afT.bW=true:=by kernel_rfl
noncomputable def arG:bY:={ nargs:=1,ntmps:=23,code:=codeOf (bg Tryz.prog 91 []),results:=[(.tmp 2)] }
theorem ax1:bg Tryz.prog 91 []=some arG:=by kernel_rfl
theorem ax2:arG.code.bW=true:=by kernel_rfl
noncomputable def ahc:bY:={ nargs:=1,ntmps:=113,code:=codeOf (bg Tryz.prog 92 [[1,3],[1,4]]),results:=[(.tmp 2)] }
theorem ax3:bg Tryz.prog 92 [[1,3],[1,4]]=some ahc:=by kernel_rfl
theorem ax4:ahc.code.bW=true:=by kernel_rfl
noncomputable def anG:cO:=(cA (cB ahc.code))
theorem al3:anG.bW=true:=by kernel_rfl
noncomputable def al4:cO:=(cL (cK (cB (cA (cB (cB ahc.code))))))
theorem ao1:al4.bW=true:=by kernel_rfl
noncomputable def al5:cO:=(cL (cK (cB (cA (cB (cB (cB ahc.code)))))))
theorem ao2:al5.bW=true:=by kernel_rfl
noncomputable def KE:cO:=(cA (cB (cK (cA (cB (cL (cK (cB (cA (cB (cB (cB ahc.code))))))))))))
theorem QK:KE.bW=true:=by kernel_rfl
noncomputable def arH:bY:={ nargs:=1,ntmps:=8,code:=codeOf (bg Tryz.prog 93 []),results:=[(.tmp 2)] }
theorem ax5:bg Tryz.prog 93 []=some arH:=by kernel_rfl
theorem ax6:arH.code.bW=true:=by kernel_rfl
noncomputable def arI:bY:={ nargs:=1,ntmps:=9,code:=codeOf (bg Tryz.prog 94 []),results:=[(.tmp 2)] }
theorem ax7:bg Tryz.prog 94 []=some arI:=by kernel_rfl
theorem ax8:arI.code.bW=true:=by kernel_rfl
noncomputable def ao3:bY:={ nargs:=2,ntmps:=26,code:=codeOf (bg Tryz.prog 95 [[5,10,11,12]]),results:=[(.tmp 4)] }
theorem ax9:bg Tryz.prog 95 [[5,10,11,12]]=some ao3:=by kernel_rfl
theorem aya:ao3.code.bW=true:=by kernel_rfl
noncomputable def al6:cO:=(cL (cK (cB (cA (cB (cB ao3.code))))))
theorem ao4:al6.bW=true:=by kernel_rfl
noncomputable def ao5:bY:={ nargs:=2,ntmps:=26,code:=codeOf (bg Tryz.prog 96 [[0,1,12,13]]),results:=[(.tmp 4)] }
theorem ayb:bg Tryz.prog 96 [[0,1,12,13]]=some ao5:=by kernel_rfl
theorem ayc:ao5.code.bW=true:=by kernel_rfl
noncomputable def al7:cO:=(cL (cK (cB (cA (cB (cB ao5.code))))))
theorem ao6:al7.bW=true:=by kernel_rfl
noncomputable def ao7:bY:={ nargs:=2,ntmps:=26,code:=codeOf (bg Tryz.prog 97 [[0,1,12,13]]),results:=[(.tmp 4)] }
theorem ayd:bg Tryz.prog 97 [[0,1,12,13]]=some ao7:=by kernel_rfl
theorem aye:ao7.code.bW=true:=by kernel_rfl
noncomputable def al8:cO:=(cL (cK (cB (cA (cB (cB ao7.code))))))
theorem ao8:al8.bW=true:=by kernel_rfl
noncomputable def arJ:bY:={ nargs:=2,ntmps:=37,code:=codeOf (bg Tryz.prog 98 []),results:=[(.tmp 4)] }
theorem ayf:bg Tryz.prog 98 []=some arJ:=by kernel_rfl
theorem ayg:arJ.code.bW=true:=by kernel_rfl
noncomputable def arK:bY:={ nargs:=2,ntmps:=17,code:=codeOf (bg Tryz.prog 99 []),results:=[(.tmp 4)] }
theorem ayh:bg Tryz.prog 99 []=some arK:=by kernel_rfl
theorem ayi:arK.code.bW=true:=by kernel_rfl
noncomputable def ajc:bY:={ nargs:=1,ntmps:=53,code:=codeOf (bg Tryz.prog 100 []),results:=[(.cell 2 true 6),(.tmp 3),(.tmp 4)] }
theorem arL:bg Tryz.prog 100 []=some ajc:=by kernel_rfl
theorem arM:ajc.code.bW=true:=by kernel_rfl
noncomputable def ajd:bY:={ nargs:=1,ntmps:=36,code:=codeOf (bg Tryz.prog 101 []),results:=[(.cell 2 true 2),(.tmp 3),(.tmp 4)] }
theorem arN:bg Tryz.prog 101 []=some ajd:=by kernel_rfl
theorem arO:ajd.code.bW=true:=by kernel_rfl
noncomputable def aje:bY:={ nargs:=1,ntmps:=9,code:=codeOf (bg Tryz.prog 102 []),results:=[(.tmp 2)] }
theorem arP:bg Tryz.prog 102 []=some aje:=by kernel_rfl
theorem arQ:aje.code.bW=true:=by kernel_rfl
noncomputable def ajf:bY:={ nargs:=1,ntmps:=22,code:=codeOf (bg Tryz.prog 103 []),results:=[(.cell 2 true 5)] }
theorem arR:bg Tryz.prog 103 []=some ajf:=by kernel_rfl
theorem arS:ajf.code.bW=true:=by kernel_rfl
noncomputable def ajg:bY:={ nargs:=1,ntmps:=9,code:=codeOf (bg Tryz.prog 104 []),results:=[(.tmp 2)] }
theorem arT:bg Tryz.prog 104 []=some ajg:=by kernel_rfl
theorem arU:ajg.code.bW=true:=by kernel_rfl
noncomputable def WL:bY:={ nargs:=1,ntmps:=80,code:=codeOf (bg Tryz.prog 105 [[2,5,21,22],[2,5,33,34]]),results:=[(.cell 2 true 4),(.tmp 3),(.tmp 4)] }
theorem arV:bg Tryz.prog 105 [[2,5,21,22],[2,5,33,34]]=some WL:=by kernel_rfl
theorem arW:WL.code.bW=true:=by kernel_rfl
noncomputable def ahd:cO:=(cL (cK (cB (cA (cB (cB (cB (cB WL.code))))))))
theorem al9:ahd.bW=true:=by kernel_rfl
noncomputable def ahe:cO:=(cL (cK (cB (cA (cB (cB (cB (cB (cB WL.code)))))))))
theorem ama:ahe.bW=true:=by kernel_rfl
noncomputable def Uk:cO:=(cA (cB (cB (cB (cB (cB (cB WL.code)))))))
theorem YI:Uk.bW=true:=by kernel_rfl
noncomputable def QL:cO:=(cA (cA (cB (cB (cB (cB (cB (cB WL.code))))))))
theorem WM:QL.bW=true:=by kernel_rfl
noncomputable def WO:bY:={ nargs:=1,ntmps:=56,code:=codeOf (bg Tryz.prog 106 [[0,5,6]]),results:=[(.tmp 2),(.tmp 3),(.tmp 4)] }
theorem arX:bg Tryz.prog 106 [[0,5,6]]=some WO:=by kernel_rfl
theorem arY:WO.code.bW=true:=by kernel_rfl
noncomputable def ahf:cO:=(cL (cK (cB (cA (cB (cB WO.code))))))
theorem amb:ahf.bW=true:=by kernel_rfl
noncomputable def KF:cO:=(cA (cB (cK (cA (cB (cL (cK (cB (cA (cB (cB WO.code)))))))))))
theorem QM:KF.bW=true:=by kernel_rfl
noncomputable def I6:cO:=(cA (cA (cB (cK (cA (cB (cL (cK (cB (cA (cB (cB WO.code))))))))))))
theorem PY:I6.bW=true:=by kernel_rfl
noncomputable def FK:cO:=(cA (cB (cB (cB (cB (cK (cA (cB (cL (cK (cB (cA (cB (cB WO.code))))))))))))))
theorem MJ:FK.bW=true:=by kernel_rfl
noncomputable def ajh:bY:={ nargs:=1,ntmps:=29,code:=codeOf (bg Tryz.prog 107 []),results:=[(.tmp 2)] }
theorem arZ:bg Tryz.prog 107 []=some ajh:=by kernel_rfl
theorem ar0:ajh.code.bW=true:=by kernel_rfl
noncomputable def aji:bY:={ nargs:=2,ntmps:=13,code:=codeOf (bg Tryz.prog 108 []),results:=[] }
theorem ar1:bg Tryz.prog 108 []=some aji:=by kernel_rfl
theorem ar2:aji.code.bW=true:=by kernel_rfl
noncomputable def ajj:bY:={ nargs:=1,ntmps:=7,code:=codeOf (bg Tryz.prog 109 []),results:=[(.tmp 2)] }
theorem ar3:bg Tryz.prog 109 []=some ajj:=by kernel_rfl
theorem ar4:ajj.code.bW=true:=by kernel_rfl
noncomputable def afU:bY:={ nargs:=1,ntmps:=58,code:=codeOf (bg Tryz.prog 110 []),results:=[(.tmp 2)] }
theorem ar5:bg Tryz.prog 110 []=some afU:=by kernel_rfl
theorem ar6:afU.code.bW=true:=by kernel_rfl
noncomputable def ajk:cO:=(cA (cB afU.code))
theorem ajl:ajk.bW=true:=by kernel_rfl
noncomputable def afV:bY:={ nargs:=1,ntmps:=25,code:=codeOf (bg Tryz.prog 111 [[0,2,3,4]]),results:=[(.cell 2 true 1)] }
theorem ar7:bg Tryz.prog 111 [[0,2,3,4]]=some afV:=by kernel_rfl
theorem ar8:afV.code.bW=true:=by kernel_rfl
noncomputable def ahg:cO:=(cL (cK (cB (cA (cB (cB afV.code))))))
theorem amc:ahg.bW=true:=by kernel_rfl
noncomputable def afW:bY:={ nargs:=1,ntmps:=18,code:=codeOf (bg Tryz.prog 112 [[0,2,3,4]]),results:=[(.cell 2 true 1)] }
theorem ar9:bg Tryz.prog 112 [[0,2,3,4]]=some afW:=by kernel_rfl
theorem asa:afW.code.bW=true:=by kernel_rfl
noncomputable def ahh:cO:=(cL (cK (cB (cA (cB (cB afW.code))))))
theorem amd:ahh.bW=true:=by kernel_rfl
noncomputable def afX:bY:={ nargs:=2,ntmps:=34,code:=codeOf (bg Tryz.prog 113 [[0,1,4,6]]),results:=[(.cell 4 true 4),(.tmp 5)] }
theorem asb:bg Tryz.prog 113 [[0,1,4,6]]=some afX:=by kernel_rfl
theorem asc:afX.code.bW=true:=by kernel_rfl
noncomputable def WQ:cO:=(cL (cK (cB (cA (cB afX.code)))))
theorem acW:WQ.bW=true:=by kernel_rfl
noncomputable def acX:bY:={ nargs:=2,ntmps:=147,code:=codeOf (bg Tryz.prog 114 []),results:=[(.cell 4 true 2)] }
theorem ase:bg Tryz.prog 114 []=some acX:=by kernel_rfl
theorem asf:acX.code.bW=true:=by kernel_rfl
noncomputable def CW:cO:=(cA (cT (cB (cF (cB (cK (cB (cA (cB (cB (cB acX.code)))))))))))
theorem FL:CW.bW=true:=by kernel_rfl
noncomputable def xW:cO:=(cA (cB (cB (cB (cT (cB (cF (cB (cK (cB (cA (cB (cB (cB acX.code))))))))))))))
theorem Cc:xW.bW=true:=by kernel_rfl
noncomputable def Ul:bY:={ nargs:=2,ntmps:=96,code:=codeOf (bg Tryz.prog 115 [[0,3,7,8,9]]),results:=[(.tmp 4)] }
theorem asg:bg Tryz.prog 115 [[0,3,7,8,9]]=some Ul:=by kernel_rfl
theorem ash:Ul.code.bW=true:=by kernel_rfl
noncomputable def YJ:cO:=(cA (cB (cB Ul.code)))
theorem WR:YJ.bW=true:=by kernel_rfl
noncomputable def WS:cO:=(cL (cK (cB (cA (cB (cB (cB (cB (cB Ul.code)))))))))
theorem acY:WS.bW=true:=by kernel_rfl
noncomputable def zW:cO:=(cA (cK (cA (cB (cL (cK (cB (cA (cB (cB (cB (cB (cB Ul.code)))))))))))))
theorem CX:zW.bW=true:=by kernel_rfl
noncomputable def xX:cO:=(cA (cA (cK (cA (cB (cL (cK (cB (cA (cB (cB (cB (cB (cB Ul.code))))))))))))))
theorem Ce:xX.bW=true:=by kernel_rfl
noncomputable def Lj:cO:=(cA (cB (cB (cB (cB (cB (cB Ul.code)))))))
theorem MK:Lj.bW=true:=by kernel_rfl
noncomputable def ajm:bY:={ nargs:=1,ntmps:=14,code:=codeOf (bg Tryz.prog 116 []),results:=[(.cell 2 true 19)] }
theorem asi:bg Tryz.prog 116 []=some ajm:=by kernel_rfl
theorem asj:ajm.code.bW=true:=by kernel_rfl
noncomputable def ajn:bY:={ nargs:=1,ntmps:=9,code:=codeOf (bg Tryz.prog 117 []),results:=[(.tmp 2)] }
theorem asl:bg Tryz.prog 117 []=some ajn:=by kernel_rfl
theorem asn:ajn.code.bW=true:=by kernel_rfl
noncomputable def afY:bY:={ nargs:=1,ntmps:=23,code:=codeOf (bg Tryz.prog 118 [[3,9,10]]),results:=[(.tmp 2)] }
theorem aso:bg Tryz.prog 118 [[3,9,10]]=some afY:=by kernel_rfl
theorem asq:afY.code.bW=true:=by kernel_rfl
noncomputable def ahj:cO:=(cL (cK (cB (cA (cB (cB afY.code))))))
theorem ame:ahj.bW=true:=by kernel_rfl
noncomputable def ajo:bY:={ nargs:=2,ntmps:=9,code:=codeOf (bg Tryz.prog 119 []),results:=[(.tmp 4)] }
theorem asr:bg Tryz.prog 119 []=some ajo:=by kernel_rfl
theorem asu:ajo.code.bW=true:=by kernel_rfl
noncomputable def ajp:bY:={ nargs:=1,ntmps:=6,code:=codeOf (bg Tryz.prog 120 []),results:=[(.tmp 2)] }
theorem asv:bg Tryz.prog 120 []=some ajp:=by kernel_rfl
theorem asw:ajp.code.bW=true:=by kernel_rfl
noncomputable def afZ:bY:={ nargs:=1,ntmps:=21,code:=codeOf (bg Tryz.prog 121 []),results:=[(.tmp 2)] }
theorem asx:bg Tryz.prog 121 []=some afZ:=by kernel_rfl
theorem asy:afZ.code.bW=true:=by kernel_rfl
noncomputable def Z_:cO:=(cA (cK (cB (cA (cB afZ.code)))))
theorem acZ:Z_.bW=true:=by kernel_rfl
noncomputable def af0:bY:={ nargs:=2,ntmps:=40,code:=codeOf (bg Tryz.prog 122 [[0,4,7,12,13]]),results:=[(.tmp 4),(.tmp 5),(.tmp 6)] }
theorem asz:bg Tryz.prog 122 [[0,4,7,12,13]]=some af0:=by kernel_rfl
theorem asA:af0.code.bW=true:=by kernel_rfl
noncomputable def ahk:cO:=(cL (cK (cB (cA (cB (cB af0.code))))))
theorem amf:ahk.bW=true:=by kernel_rfl
noncomputable def af2:bY:={ nargs:=2,ntmps:=27,code:=codeOf (bg Tryz.prog 123 [[0,4,8,9]]),results:=[(.tmp 4),(.tmp 5),(.tmp 6)] }
theorem asB:bg Tryz.prog 123 [[0,4,8,9]]=some af2:=by kernel_rfl
theorem asC:af2.code.bW=true:=by kernel_rfl
noncomputable def ahl:cO:=(cL (cK (cB (cA (cB af2.code)))))
theorem amg:ahl.bW=true:=by kernel_rfl
noncomputable def ajq:bY:={ nargs:=1,ntmps:=20,code:=codeOf (bg Tryz.prog 124 []),results:=[(.tmp 2),(.tmp 3),(.tmp 4)] }
theorem asD:bg Tryz.prog 124 []=some ajq:=by kernel_rfl
theorem asE:ajq.code.bW=true:=by kernel_rfl
noncomputable def ajr:bY:={ nargs:=1,ntmps:=37,code:=codeOf (bg Tryz.prog 125 []),results:=[(.tmp 2),(.tmp 3),(.tmp 4)] }
theorem asF:bg Tryz.prog 125 []=some ajr:=by kernel_rfl
theorem asG:ajr.code.bW=true:=by kernel_rfl
noncomputable def ajs:bY:={ nargs:=2,ntmps:=37,code:=codeOf (bg Tryz.prog 126 []),results:=[(.tmp 4)] }
theorem asH:bg Tryz.prog 126 []=some ajs:=by kernel_rfl
theorem asI:ajs.code.bW=true:=by kernel_rfl
noncomputable def ajt:bY:={ nargs:=2,ntmps:=17,code:=codeOf (bg Tryz.prog 127 []),results:=[(.tmp 4)] }
theorem asJ:bg Tryz.prog 127 []=some ajt:=by kernel_rfl
theorem asK:ajt.code.bW=true:=by kernel_rfl
noncomputable def aju:bY:={ nargs:=1,ntmps:=37,code:=codeOf (bg Tryz.prog 128 []),results:=[(.cell 2 true 2)] }
theorem asL:bg Tryz.prog 128 []=some aju:=by kernel_rfl
theorem asM:aju.code.bW=true:=by kernel_rfl
noncomputable def ajv:bY:={ nargs:=1,ntmps:=36,code:=codeOf (bg Tryz.prog 129 []),results:=[(.cell 2 true 4)] }
theorem asN:bg Tryz.prog 129 []=some ajv:=by kernel_rfl
theorem asO:ajv.code.bW=true:=by kernel_rfl
noncomputable def ajw:bY:={ nargs:=1,ntmps:=9,code:=codeOf (bg Tryz.prog 130 []),results:=[(.tmp 2)] }
theorem asP:bg Tryz.prog 130 []=some ajw:=by kernel_rfl
theorem asQ:ajw.code.bW=true:=by kernel_rfl
noncomputable def ajx:bY:={ nargs:=1,ntmps:=9,code:=codeOf (bg Tryz.prog 131 []),results:=[(.tmp 2)] }
theorem asR:bg Tryz.prog 131 []=some ajx:=by kernel_rfl
theorem asS:ajx.code.bW=true:=by kernel_rfl
noncomputable def af3:bY:={ nargs:=2,ntmps:=18,code:=codeOf (bg Tryz.prog 132 [[0,5]]),results:=[(.tmp 4)] }
theorem asT:bg Tryz.prog 132 [[0,5]]=some af3:=by kernel_rfl
theorem asU:af3.code.bW=true:=by kernel_rfl
noncomputable def ahm:cO:=(cL (cK (cB (cA (cB af3.code)))))
theorem amh:ahm.bW=true:=by kernel_rfl
noncomputable def ajy:bY:={ nargs:=1,ntmps:=30,code:=codeOf (bg Tryz.prog 133 []),results:=[(.tmp 2),(.tmp 3),(.tmp 4)] }
theorem asV:bg Tryz.prog 133 []=some ajy:=by kernel_rfl
theorem asW:ajy.code.bW=true:=by kernel_rfl
noncomputable def af4:bY:={ nargs:=2,ntmps:=42,code:=codeOf (bg Tryz.prog 134 [[0,1,6]]),results:=[(.tmp 4),(.tmp 5)] }
theorem asX:bg Tryz.prog 134 [[0,1,6]]=some af4:=by kernel_rfl
theorem asY:af4.code.bW=true:=by kernel_rfl
noncomputable def WT:cO:=(cL (cK (cB (cA (cB af4.code)))))
theorem ac0:WT.bW=true:=by kernel_rfl
noncomputable def af5:bY:={ nargs:=1,ntmps:=20,code:=codeOf (bg Tryz.prog 135 [[2,3,6,7,8]]),results:=[(.cell 2 true 1)] }
theorem asZ:bg Tryz.prog 135 [[2,3,6,7,8]]=some af5:=by kernel_rfl
theorem as0:af5.code.bW=true:=by kernel_rfl
noncomputable def ahn:cO:=(cL (cK (cB (cA (cB (cB af5.code))))))
theorem ami:ahn.bW=true:=by kernel_rfl
noncomputable def af6:bY:={ nargs:=1,ntmps:=16,code:=codeOf (bg Tryz.prog 136 [[2,3,6,7,8]]),results:=[(.cell 2 true 16)] }
theorem as1:bg Tryz.prog 136 [[2,3,6,7,8]]=some af6:=by kernel_rfl
theorem as2:af6.code.bW=true:=by kernel_rfl
noncomputable def aho:cO:=(cL (cK (cB (cA (cB (cB af6.code))))))
theorem amj:aho.bW=true:=by kernel_rfl
noncomputable def ajz:bY:={ nargs:=1,ntmps:=8,code:=codeOf (bg Tryz.prog 137 []),results:=[(.tmp 2)] }
theorem as3:bg Tryz.prog 137 []=some ajz:=by kernel_rfl
theorem as4:ajz.code.bW=true:=by kernel_rfl
noncomputable def af7:bY:={ nargs:=2,ntmps:=19,code:=codeOf (bg Tryz.prog 138 [[0,1,7,8]]),results:=[(.tmp 4)] }
theorem as5:bg Tryz.prog 138 [[0,1,7,8]]=some af7:=by kernel_rfl
theorem as6:af7.code.bW=true:=by kernel_rfl
noncomputable def ahp:cO:=(cL (cK (cB (cA (cB af7.code)))))
theorem amk:ahp.bW=true:=by kernel_rfl
noncomputable def aac:bY:={ nargs:=1,ntmps:=47,code:=codeOf (bg Tryz.prog 139 [[0,2,5,6]]),results:=[(.tmp 2),(.tmp 3),(.tmp 4)] }
theorem as7:bg Tryz.prog 139 [[0,2,5,6]]=some aac:=by kernel_rfl
theorem as8:aac.code.bW=true:=by kernel_rfl
noncomputable def ac1:cO:=(cA (cB (cB (cB aac.code))))
theorem aew:ac1.bW=true:=by kernel_rfl
noncomputable def ahq:cO:=(cL (cK (cB (cA (cB (cB (cB (cB aac.code))))))))
theorem aml:ahq.bW=true:=by kernel_rfl
noncomputable def WU:cO:=(cA (cB (cB (cB (cB (cB aac.code))))))
theorem aaD:WU.bW=true:=by kernel_rfl
noncomputable def ajA:bY:={ nargs:=1,ntmps:=6,code:=codeOf (bg Tryz.prog 140 []),results:=[(.tmp 2)] }
theorem as9:bg Tryz.prog 140 []=some ajA:=by kernel_rfl
theorem ata:ajA.code.bW=true:=by kernel_rfl
noncomputable def ajB:bY:={ nargs:=2,ntmps:=65,code:=codeOf (bg Tryz.prog 141 []),results:=[(.cell 4 true 2)] }
theorem atb:bg Tryz.prog 141 []=some ajB:=by kernel_rfl
theorem atc:ajB.code.bW=true:=by kernel_rfl
noncomputable def af8:bY:={ nargs:=2,ntmps:=38,code:=codeOf (bg Tryz.prog 142 []),results:=[(.tmp 4)] }
theorem atd:bg Tryz.prog 142 []=some af8:=by kernel_rfl
theorem ate:af8.code.bW=true:=by kernel_rfl
noncomputable def ajC:cO:=(cA (cB af8.code))
theorem ajD:ajC.bW=true:=by kernel_rfl
noncomputable def af9:bY:={ nargs:=2,ntmps:=19,code:=codeOf (bg Tryz.prog 143 [[0,1,7,8]]),results:=[(.tmp 4)] }
theorem atf:bg Tryz.prog 143 [[0,1,7,8]]=some af9:=by kernel_rfl
theorem atg:af9.code.bW=true:=by kernel_rfl
noncomputable def ahr:cO:=(cL (cK (cB (cA (cB af9.code)))))
theorem amm:ahr.bW=true:=by kernel_rfl
noncomputable def ajE:bY:={ nargs:=1,ntmps:=6,code:=codeOf (bg Tryz.prog 144 []),results:=[(.tmp 2)] }
theorem ath:bg Tryz.prog 144 []=some ajE:=by kernel_rfl
theorem ati:ajE.code.bW=true:=by kernel_rfl
noncomputable def ajF:bY:={ nargs:=2,ntmps:=14,code:=codeOf (bg Tryz.prog 145 []),results:=[(.tmp 4),(.tmp 5)] }
theorem atj:bg Tryz.prog 145 []=some ajF:=by kernel_rfl
theorem atl:ajF.code.bW=true:=by kernel_rfl
noncomputable def ajG:bY:={ nargs:=4,ntmps:=41,code:=codeOf (bg Tryz.prog 146 []),results:=[(.cell 8 true 2)] }
theorem atm:bg Tryz.prog 146 []=some ajG:=by kernel_rfl
theorem atn:ajG.code.bW=true:=by kernel_rfl
noncomputable def ajH:bY:={ nargs:=3,ntmps:=28,code:=codeOf (bg Tryz.prog 147 []),results:=[(.cell 6 true 2)] }
theorem ato:bg Tryz.prog 147 []=some ajH:=by kernel_rfl
theorem atp:ajH.code.bW=true:=by kernel_rfl
noncomputable def ajI:bY:={ nargs:=3,ntmps:=33,code:=codeOf (bg Tryz.prog 148 []),results:=[(.tmp 6)] }
theorem atq:bg Tryz.prog 148 []=some ajI:=by kernel_rfl
theorem atr:ajI.code.bW=true:=by kernel_rfl
noncomputable def aga:bY:={ nargs:=3,ntmps:=49,code:=codeOf (bg Tryz.prog 149 [[0,1,2,8,9,10]]),results:=[(.tmp 6),(.tmp 7)] }
theorem att:bg Tryz.prog 149 [[0,1,2,8,9,10]]=some aga:=by kernel_rfl
theorem atu:aga.code.bW=true:=by kernel_rfl
noncomputable def ahs:cO:=(cL (cK (cA (cB (cB (cB aga.code))))))
theorem amn:ahs.bW=true:=by kernel_rfl
noncomputable def ajJ:bY:={ nargs:=2,ntmps:=9,code:=codeOf (bg Tryz.prog 150 []),results:=[(.tmp 4)] }
theorem atv:bg Tryz.prog 150 []=some ajJ:=by kernel_rfl
theorem atw:ajJ.code.bW=true:=by kernel_rfl
noncomputable def ajK:bY:={ nargs:=2,ntmps:=20,code:=codeOf (bg Tryz.prog 151 []),results:=[(.tmp 4)] }
theorem atx:bg Tryz.prog 151 []=some ajK:=by kernel_rfl
theorem aty:ajK.code.bW=true:=by kernel_rfl
noncomputable def ajL:bY:={ nargs:=3,ntmps:=22,code:=codeOf (bg Tryz.prog 152 []),results:=[] }
theorem atz:bg Tryz.prog 152 []=some ajL:=by kernel_rfl
theorem atA:ajL.code.bW=true:=by kernel_rfl
noncomputable def ayU:bY:={ nargs:=3,ntmps:=95,code:=codeOf (bg Tryz.prog 153 []),results:=[(.tmp 6)] }
theorem atB:bg Tryz.prog 153 []=some ayU:=by kernel_rfl
noncomputable def ajM:bY:={ nargs:=1,ntmps:=6,code:=codeOf (bg Tryz.prog 154 []),results:=[(.tmp 2)] }
theorem atC:bg Tryz.prog 154 []=some ajM:=by kernel_rfl
theorem atD:ajM.code.bW=true:=by kernel_rfl
noncomputable def ajN:bY:={ nargs:=2,ntmps:=10,code:=codeOf (bg Tryz.prog 156 []),results:=[] }
theorem atE:bg Tryz.prog 156 []=some ajN:=by kernel_rfl
theorem atF:ajN.code.bW=true:=by kernel_rfl
noncomputable def ajO:bY:={ nargs:=2,ntmps:=14,code:=codeOf (bg Tryz.prog 157 []),results:=[] }
theorem atG:bg Tryz.prog 157 []=some ajO:=by kernel_rfl
theorem atH:ajO.code.bW=true:=by kernel_rfl
noncomputable def ajP:bY:={ nargs:=1,ntmps:=28,code:=codeOf (bg Tryz.prog 158 [[0,2,3]]),results:=[] }
theorem atJ:bg Tryz.prog 158 [[0,2,3]]=some ajP:=by kernel_rfl
theorem atK:ajP.code.bW=true:=by kernel_rfl
def agb{α:Type}:List (Nat×α)→Nat→Option α
 | [],_=>none
 | p::r,n=>match Nat.beq p.1 n with
  | true=>some p.2
  | false=>agb r n
theorem SX{α:Type}:∀ {l:List (Nat×α)} {n:Nat} {x:α},agb l n=some x→(n,x)∈l
 | [],n,x,h=>by cases h
 | p::r,n,x,h=>by
  simp only[agb]at h
  split at h
  ·rename_i e
   obtain rfl:=av h
   rw[←bT e]
   exact List.mem_cons_self
  ·exact List.mem_cons_of_mem _ (SX h)
noncomputable def ayV:List (Nat×bY):=[(7,WF7),(8,WF8),(9,WF9),(10,ai0),(11,ag6),(12,aor),(13,aqP),(14,aln),(16,aqQ),(17,alr),(18,acJ),(20,alv),(21,aow),(22,aqR),(23,aqS),(24,aqT),(25,aox),(26,aqU),(27,aoz),(28,aqV),(29,aoA),(30,alB),(31,aoC),(32,aqW),(33,alE),(34,aqX),(35,aqY),(36,alF),(37,aoE),(38,alG),(39,aqZ),(40,aq0),(41,aq1),(42,alH),(43,aq2),(44,aq3),(45,aq4),(46,aq5),(47,aq6),(48,aq7),(49,aq8),(50,aq9),(51,ara),(52,arb),(53,ard),(54,arf),(55,ai3),(56,arh),(57,ari),(58,arj),(59,alK),(60,aoJ),(61,aoL),(62,ark),(63,aoN),(64,ai4),(65,ai5),(66,arl),(67,arn),(68,aro),(69,arp),(70,aoS),(71,ag8),(72,arq),(73,ars),(74,aru),(75,arv),(76,arw),(77,alW),(78,arx),(79,arz),(80,arA),(81,arB),(82,arC),(83,arD),(84,arE),(85,aoV),(86,aoX),(87,aoZ),(88,aha),(89,arF),(90,al1),(91,arG),(92,ahc),(93,arH),(94,arI),(95,ao3),(96,ao5),(97,ao7),(98,arJ),(99,arK),(100,ajc),(101,ajd),(102,aje),(103,ajf),(104,ajg),(105,WL),(106,WO),(107,ajh),(108,aji),(109,ajj),(110,afU),(111,afV),(112,afW),(113,afX),(114,acX),(115,Ul),(116,ajm),(117,ajn),(118,afY),(119,ajo),(120,ajp),(121,afZ),(122,af0),(123,af2),(124,ajq),(125,ajr),(126,ajs),(127,ajt),(128,aju),(129,ajv),(130,ajw),(131,ajx),(132,af3),(133,ajy),(134,af4),(135,af5),(136,af6),(137,ajz),(138,af7),(139,aac),(140,ajA),(141,ajB),(142,af8),(143,af9),(144,ajE),(145,ajF),(146,ajG),(147,ajH),(148,ajI),(149,aga),(150,ajJ),(151,ajK),(152,ajL),(153,ayU),(154,ajM),(156,ajN),(157,ajO),(158,ajP)]
noncomputable def atL:FuncId→Option bY:=agb ayV
theorem azC:ZM Tryz.prog 155 ovG:=azu (fn:=Tryz.f155) (tS:=38) (tR:=4) (e:=127) (size:=2) Tryz.func155 rfl rfl (by kernel_rfl) (by kernel_rfl) Tryz.underlying38 (by kernel_rfl)
def wGL:List (Nat×(List AV→Heap→Option (AV×Heap))):=[(153,alf 2 32)]
def wG:agL:=agb wGL
theorem azD:∀p∈wGL,(UU Tryz.prog p.1∧Sound Tryz.prog p.1 p.2)∨ZM Tryz.prog p.1 p.2 :=
 aA.2 ⟨.inl (alg (hs:=[]) (zero:=[(.str []),(.str [])]) rfl (by decide) (show bg Tryz.prog 153 []=some (aaB 2 32 [(.str []),(.str [])] 155 156)by kernel_rfl) (by decide) azC),(λ_ h=>by cases h)⟩
theorem aAK:∀f g,wG f=some g→(UU Tryz.prog f∧Sound Tryz.prog f g)∨ZM Tryz.prog f g:=λf g h=>azD (f,g) (SX h)
noncomputable def aT:Tab:=(wG,atL)
theorem atM:∀p∈ayV,∃h,bg Tryz.prog p.1 h=some p.2 :=
 aA.2 ⟨⟨_,azw⟩,aA.2 ⟨⟨_,azy⟩,aA.2 ⟨⟨_,azA⟩,aA.2 ⟨⟨_,avl⟩,aA.2 ⟨⟨_,avn⟩,aA.2 ⟨⟨_,avp⟩,aA.2 ⟨⟨_,avr⟩,aA.2 ⟨⟨_,avu⟩,aA.2 ⟨⟨_,avw⟩,aA.2 ⟨⟨_,avy⟩,aA.2 ⟨⟨_,avA⟩,aA.2 ⟨⟨_,avC⟩,aA.2 ⟨⟨_,avE⟩,aA.2 ⟨⟨_,avG⟩,aA.2 ⟨⟨_,avI⟩,aA.2 ⟨⟨_,avK⟩,aA.2 ⟨⟨_,avM⟩,aA.2 ⟨⟨_,avO⟩,aA.2 ⟨⟨_,avQ⟩,aA.2 ⟨⟨_,avS⟩,aA.2 ⟨⟨_,avU⟩,aA.2 ⟨⟨_,avW⟩,aA.2 ⟨⟨_,avY⟩,aA.2 ⟨⟨_,av0⟩,aA.2 ⟨⟨_,av2⟩,aA.2 ⟨⟨_,av4⟩,aA.2 ⟨⟨_,av6⟩,aA.2 ⟨⟨_,av8⟩,aA.2 ⟨⟨_,awc⟩,aA.2 ⟨⟨_,awe⟩,aA.2 ⟨⟨_,awg⟩,aA.2 ⟨⟨_,awi⟩,aA.2 ⟨⟨_,awk⟩,aA.2 ⟨⟨_,awm⟩,aA.2 ⟨⟨_,awo⟩,aA.2 ⟨⟨_,awq⟩,aA.2 ⟨⟨_,awt⟩,aA.2 ⟨⟨_,awv⟩,aA.2 ⟨⟨_,awx⟩,aA.2 ⟨⟨_,awz⟩,aA.2 ⟨⟨_,awD⟩,aA.2 ⟨⟨_,awF⟩,aA.2 ⟨⟨_,awH⟩,aA.2 ⟨⟨_,awJ⟩,aA.2 ⟨⟨_,awL⟩,aA.2 ⟨⟨_,awN⟩,aA.2 ⟨⟨_,awP⟩,aA.2 ⟨⟨_,awR⟩,aA.2 ⟨⟨_,awT⟩,aA.2 ⟨⟨_,awV⟩,aA.2 ⟨⟨_,awX⟩,aA.2 ⟨⟨_,awZ⟩,aA.2 ⟨⟨_,aw1⟩,aA.2 ⟨⟨_,aw3⟩,aA.2 ⟨⟨_,aw5⟩,aA.2 ⟨⟨_,aw7⟩,aA.2 ⟨⟨_,aw9⟩,aA.2 ⟨⟨_,axb⟩,aA.2 ⟨⟨_,axd⟩,aA.2 ⟨⟨_,axf⟩,aA.2 ⟨⟨_,axh⟩,aA.2 ⟨⟨_,axj⟩,aA.2 ⟨⟨_,axl⟩,aA.2 ⟨⟨_,axo⟩,aA.2 ⟨⟨_,axq⟩,aA.2 ⟨⟨_,axt⟩,aA.2 ⟨⟨_,axv⟩,aA.2 ⟨⟨_,axx⟩,aA.2 ⟨⟨_,axz⟩,aA.2 ⟨⟨_,axB⟩,aA.2 ⟨⟨_,axD⟩,aA.2 ⟨⟨_,axF⟩,aA.2 ⟨⟨_,axH⟩,aA.2 ⟨⟨_,axJ⟩,aA.2 ⟨⟨_,axL⟩,aA.2 ⟨⟨_,axN⟩,aA.2 ⟨⟨_,axP⟩,aA.2 ⟨⟨_,axR⟩,aA.2 ⟨⟨_,axT⟩,aA.2 ⟨⟨_,axV⟩,aA.2 ⟨⟨_,axX⟩,aA.2 ⟨⟨_,axZ⟩,aA.2 ⟨⟨_,ax1⟩,aA.2 ⟨⟨_,ax3⟩,aA.2 ⟨⟨_,ax5⟩,aA.2 ⟨⟨_,ax7⟩,aA.2 ⟨⟨_,ax9⟩,aA.2 ⟨⟨_,ayb⟩,aA.2 ⟨⟨_,ayd⟩,aA.2 ⟨⟨_,ayf⟩,aA.2 ⟨⟨_,ayh⟩,aA.2 ⟨⟨_,arL⟩,aA.2 ⟨⟨_,arN⟩,aA.2 ⟨⟨_,arP⟩,aA.2 ⟨⟨_,arR⟩,aA.2 ⟨⟨_,arT⟩,aA.2 ⟨⟨_,arV⟩,aA.2 ⟨⟨_,arX⟩,aA.2 ⟨⟨_,arZ⟩,aA.2 ⟨⟨_,ar1⟩,aA.2 ⟨⟨_,ar3⟩,aA.2 ⟨⟨_,ar5⟩,aA.2 ⟨⟨_,ar7⟩,aA.2 ⟨⟨_,ar9⟩,aA.2 ⟨⟨_,asb⟩,aA.2 ⟨⟨_,ase⟩,aA.2 ⟨⟨_,asg⟩,aA.2 ⟨⟨_,asi⟩,aA.2 ⟨⟨_,asl⟩,aA.2 ⟨⟨_,aso⟩,aA.2 ⟨⟨_,asr⟩,aA.2 ⟨⟨_,asv⟩,aA.2 ⟨⟨_,asx⟩,aA.2 ⟨⟨_,asz⟩,aA.2 ⟨⟨_,asB⟩,aA.2 ⟨⟨_,asD⟩,aA.2 ⟨⟨_,asF⟩,aA.2 ⟨⟨_,asH⟩,aA.2 ⟨⟨_,asJ⟩,aA.2 ⟨⟨_,asL⟩,aA.2 ⟨⟨_,asN⟩,aA.2 ⟨⟨_,asP⟩,aA.2 ⟨⟨_,asR⟩,aA.2 ⟨⟨_,asT⟩,aA.2 ⟨⟨_,asV⟩,aA.2 ⟨⟨_,asX⟩,aA.2 ⟨⟨_,asZ⟩,aA.2 ⟨⟨_,as1⟩,aA.2 ⟨⟨_,as3⟩,aA.2 ⟨⟨_,as5⟩,aA.2 ⟨⟨_,as7⟩,aA.2 ⟨⟨_,as9⟩,aA.2 ⟨⟨_,atb⟩,aA.2 ⟨⟨_,atd⟩,aA.2 ⟨⟨_,atf⟩,aA.2 ⟨⟨_,ath⟩,aA.2 ⟨⟨_,atj⟩,aA.2 ⟨⟨_,atm⟩,aA.2 ⟨⟨_,ato⟩,aA.2 ⟨⟨_,atq⟩,aA.2 ⟨⟨_,att⟩,aA.2 ⟨⟨_,atv⟩,aA.2 ⟨⟨_,atx⟩,aA.2 ⟨⟨_,atz⟩,aA.2 ⟨⟨_,atB⟩,aA.2 ⟨⟨_,atC⟩,aA.2 ⟨⟨_,atE⟩,aA.2 ⟨⟨_,atG⟩,aA.2 ⟨⟨_,atJ⟩,(λ_ h=>by cases h)⟩⟩⟩⟩⟩⟩⟩⟩⟩⟩⟩⟩⟩⟩⟩⟩⟩⟩⟩⟩⟩⟩⟩⟩⟩⟩⟩⟩⟩⟩⟩⟩⟩⟩⟩⟩⟩⟩⟩⟩⟩⟩⟩⟩⟩⟩⟩⟩⟩⟩⟩⟩⟩⟩⟩⟩⟩⟩⟩⟩⟩⟩⟩⟩⟩⟩⟩⟩⟩⟩⟩⟩⟩⟩⟩⟩⟩⟩⟩⟩⟩⟩⟩⟩⟩⟩⟩⟩⟩⟩⟩⟩⟩⟩⟩⟩⟩⟩⟩⟩⟩⟩⟩⟩⟩⟩⟩⟩⟩⟩⟩⟩⟩⟩⟩⟩⟩⟩⟩⟩⟩⟩⟩⟩⟩⟩⟩⟩⟩⟩⟩⟩⟩⟩⟩⟩⟩⟩⟩⟩⟩⟩⟩⟩⟩⟩⟩⟩⟩
theorem ayj{f:FuncId}{x:bY}(h:atL f=some x):∃hs,bg Tryz.prog f hs=some x:=atM (f,x) (SX h)
theorem AF7:aT.1 7=none∧aT.2 7=some WF7∧WF7.code.bW=true:=jr rfl (by kernel_rfl) azx
theorem AF8:aT.1 8=none∧aT.2 8=some WF8∧WF8.code.bW=true:=jr rfl (by kernel_rfl) azz
theorem AF9:aT.1 9=none∧aT.2 9=some WF9∧WF9.code.bW=true:=jr rfl (by kernel_rfl) azB
theorem aCc:aT.1 10=none∧aT.2 10=some ai0∧ai0.code.bW=true:=jr rfl (by kernel_rfl) avm
theorem aCd:aT.1 11=none∧aT.2 11=some ag6∧ag6.code.bW=true:=jr rfl (by kernel_rfl) avo
theorem aCe:aT.1 12=none∧aT.2 12=some aor∧aor.code.bW=true:=jr rfl (by kernel_rfl) avq
theorem aCf:aT.1 13=none∧aT.2 13=some aqP∧aqP.code.bW=true:=jr rfl (by kernel_rfl) avt
theorem aCg:aT.1 14=none∧aT.2 14=some aln∧aln.code.bW=true:=jr rfl (by kernel_rfl) avv
theorem aCh:aT.1 16=none∧aT.2 16=some aqQ∧aqQ.code.bW=true:=jr rfl (by kernel_rfl) avx
theorem aCi:aT.1 17=none∧aT.2 17=some alr∧alr.code.bW=true:=jr rfl (by kernel_rfl) avz
theorem aCj:aT.1 18=none∧aT.2 18=some acJ∧acJ.code.bW=true:=jr rfl (by kernel_rfl) avB
theorem aAL:aT.1 20=none∧aT.2 20=some alv∧alv.code.bW=true:=jr rfl (by kernel_rfl) avD
theorem aCk:aT.1 21=none∧aT.2 21=some aow∧aow.code.bW=true:=jr rfl (by kernel_rfl) avF
theorem aCl:aT.1 22=none∧aT.2 22=some aqR∧aqR.code.bW=true:=jr rfl (by kernel_rfl) avH
theorem aCm:aT.1 23=none∧aT.2 23=some aqS∧aqS.code.bW=true:=jr rfl (by kernel_rfl) avJ
theorem aCn:aT.1 24=none∧aT.2 24=some aqT∧aqT.code.bW=true:=jr rfl (by kernel_rfl) avL
theorem aCo:aT.1 25=none∧aT.2 25=some aox∧aox.code.bW=true:=jr rfl (by kernel_rfl) avN
theorem aCp:aT.1 26=none∧aT.2 26=some aqU∧aqU.code.bW=true:=jr rfl (by kernel_rfl) avP
theorem aCq:aT.1 27=none∧aT.2 27=some aoz∧aoz.code.bW=true:=jr rfl (by kernel_rfl) avR
theorem aCr:aT.1 28=none∧aT.2 28=some aqV∧aqV.code.bW=true:=jr rfl (by kernel_rfl) avT
theorem aCs:aT.1 29=none∧aT.2 29=some aoA∧aoA.code.bW=true:=jr rfl (by kernel_rfl) avV
theorem aCt:aT.1 30=none∧aT.2 30=some alB∧alB.code.bW=true:=jr rfl (by kernel_rfl) avX
theorem aCu:aT.1 31=none∧aT.2 31=some aoC∧aoC.code.bW=true:=jr rfl (by kernel_rfl) avZ
theorem aCv:aT.1 32=none∧aT.2 32=some aqW∧aqW.code.bW=true:=jr rfl (by kernel_rfl) av1
theorem aAM:aT.1 33=none∧aT.2 33=some alE∧alE.code.bW=true:=jr rfl (by kernel_rfl) av3
theorem aCw:aT.1 34=none∧aT.2 34=some aqX∧aqX.code.bW=true:=jr rfl (by kernel_rfl) av5
theorem aCx:aT.1 35=none∧aT.2 35=some aqY∧aqY.code.bW=true:=jr rfl (by kernel_rfl) av7
theorem aAN:aT.1 36=none∧aT.2 36=some alF∧alF.code.bW=true:=jr rfl (by kernel_rfl) av9
theorem aCy:aT.1 37=none∧aT.2 37=some aoE∧aoE.code.bW=true:=jr rfl (by kernel_rfl) awd
theorem aAO:aT.1 38=none∧aT.2 38=some alG∧alG.code.bW=true:=jr rfl (by kernel_rfl) awf
theorem aCz:aT.1 39=none∧aT.2 39=some aqZ∧aqZ.code.bW=true:=jr rfl (by kernel_rfl) awh
theorem aCA:aT.1 40=none∧aT.2 40=some aq0∧aq0.code.bW=true:=jr rfl (by kernel_rfl) awj
theorem aCB:aT.1 41=none∧aT.2 41=some aq1∧aq1.code.bW=true:=jr rfl (by kernel_rfl) awl
theorem aCC:aT.1 42=none∧aT.2 42=some alH∧alH.code.bW=true:=jr rfl (by kernel_rfl) awn
theorem aCD:aT.1 43=none∧aT.2 43=some aq2∧aq2.code.bW=true:=jr rfl (by kernel_rfl) awp
theorem aCE:aT.1 44=none∧aT.2 44=some aq3∧aq3.code.bW=true:=jr rfl (by kernel_rfl) awr
theorem aCF:aT.1 45=none∧aT.2 45=some aq4∧aq4.code.bW=true:=jr rfl (by kernel_rfl) awu
theorem aCG:aT.1 46=none∧aT.2 46=some aq5∧aq5.code.bW=true:=jr rfl (by kernel_rfl) aww
theorem aCH:aT.1 47=none∧aT.2 47=some aq6∧aq6.code.bW=true:=jr rfl (by kernel_rfl) awy
theorem aCI:aT.1 48=none∧aT.2 48=some aq7∧aq7.code.bW=true:=jr rfl (by kernel_rfl) awC
theorem aCJ:aT.1 49=none∧aT.2 49=some aq8∧aq8.code.bW=true:=jr rfl (by kernel_rfl) awE
theorem aCK:aT.1 50=none∧aT.2 50=some aq9∧aq9.code.bW=true:=jr rfl (by kernel_rfl) awG
theorem aCL:aT.1 51=none∧aT.2 51=some ara∧ara.code.bW=true:=jr rfl (by kernel_rfl) awI
theorem aCM:aT.1 52=none∧aT.2 52=some arb∧arb.code.bW=true:=jr rfl (by kernel_rfl) awK
theorem aCN:aT.1 53=none∧aT.2 53=some ard∧ard.code.bW=true:=jr rfl (by kernel_rfl) awM
theorem aCO:aT.1 54=none∧aT.2 54=some arf∧arf.code.bW=true:=jr rfl (by kernel_rfl) awO
theorem aAP:aT.1 55=none∧aT.2 55=some ai3∧ai3.code.bW=true:=jr rfl (by kernel_rfl) awQ
theorem aCP:aT.1 56=none∧aT.2 56=some arh∧arh.code.bW=true:=jr rfl (by kernel_rfl) awS
theorem aCQ:aT.1 57=none∧aT.2 57=some ari∧ari.code.bW=true:=jr rfl (by kernel_rfl) awU
theorem aCR:aT.1 58=none∧aT.2 58=some arj∧arj.code.bW=true:=jr rfl (by kernel_rfl) awW
theorem aCS:aT.1 59=none∧aT.2 59=some alK∧alK.code.bW=true:=jr rfl (by kernel_rfl) awY
theorem aCT:aT.1 60=none∧aT.2 60=some aoJ∧aoJ.code.bW=true:=jr rfl (by kernel_rfl) aw0
theorem aCU:aT.1 61=none∧aT.2 61=some aoL∧aoL.code.bW=true:=jr rfl (by kernel_rfl) aw2
theorem aCV:aT.1 62=none∧aT.2 62=some ark∧ark.code.bW=true:=jr rfl (by kernel_rfl) aw4
theorem aCW:aT.1 63=none∧aT.2 63=some aoN∧aoN.code.bW=true:=jr rfl (by kernel_rfl) aw6
theorem aCX:aT.1 64=none∧aT.2 64=some ai4∧ai4.code.bW=true:=jr rfl (by kernel_rfl) aw8
theorem aCY:aT.1 65=none∧aT.2 65=some ai5∧ai5.code.bW=true:=jr rfl (by kernel_rfl) axa
theorem aCZ:aT.1 66=none∧aT.2 66=some arl∧arl.code.bW=true:=jr rfl (by kernel_rfl) axc
theorem aC0:aT.1 67=none∧aT.2 67=some arn∧arn.code.bW=true:=jr rfl (by kernel_rfl) axe
theorem aC1:aT.1 68=none∧aT.2 68=some aro∧aro.code.bW=true:=jr rfl (by kernel_rfl) axg
theorem aC2:aT.1 69=none∧aT.2 69=some arp∧arp.code.bW=true:=jr rfl (by kernel_rfl) axi
theorem aC3:aT.1 70=none∧aT.2 70=some aoS∧aoS.code.bW=true:=jr rfl (by kernel_rfl) axk
theorem aC4:aT.1 71=none∧aT.2 71=some ag8∧ag8.code.bW=true:=jr rfl (by kernel_rfl) axn
theorem aC5:aT.1 72=none∧aT.2 72=some arq∧arq.code.bW=true:=jr rfl (by kernel_rfl) axp
theorem aDS:aT.1 73=none∧aT.2 73=some ars∧ars.code.bW=true:=jr rfl (by kernel_rfl) axr
theorem aDT:aT.1 74=none∧aT.2 74=some aru∧aru.code.bW=true:=jr rfl (by kernel_rfl) axu
theorem aC6:aT.1 75=none∧aT.2 75=some arv∧arv.code.bW=true:=jr rfl (by kernel_rfl) axw
theorem aC7:aT.1 76=none∧aT.2 76=some arw∧arw.code.bW=true:=jr rfl (by kernel_rfl) axy
theorem aC8:aT.1 77=none∧aT.2 77=some alW∧alW.code.bW=true:=jr rfl (by kernel_rfl) axA
theorem aC9:aT.1 78=none∧aT.2 78=some arx∧arx.code.bW=true:=jr rfl (by kernel_rfl) axC
theorem aDa:aT.1 79=none∧aT.2 79=some arz∧arz.code.bW=true:=jr rfl (by kernel_rfl) axE
theorem aDb:aT.1 80=none∧aT.2 80=some arA∧arA.code.bW=true:=jr rfl (by kernel_rfl) axG
theorem aDc:aT.1 81=none∧aT.2 81=some arB∧arB.code.bW=true:=jr rfl (by kernel_rfl) axI
theorem aDd:aT.1 82=none∧aT.2 82=some arC∧arC.code.bW=true:=jr rfl (by kernel_rfl) axK
theorem aAQ:aT.1 83=none∧aT.2 83=some arD∧arD.code.bW=true:=jr rfl (by kernel_rfl) axM
theorem aDe:aT.1 84=none∧aT.2 84=some arE∧arE.code.bW=true:=jr rfl (by kernel_rfl) axO
theorem aDf:aT.1 85=none∧aT.2 85=some aoV∧aoV.code.bW=true:=jr rfl (by kernel_rfl) axQ
theorem aDg:aT.1 86=none∧aT.2 86=some aoX∧aoX.code.bW=true:=jr rfl (by kernel_rfl) axS
theorem aDh:aT.1 87=none∧aT.2 87=some aoZ∧aoZ.code.bW=true:=jr rfl (by kernel_rfl) axU
theorem aDi:aT.1 88=none∧aT.2 88=some aha∧aha.code.bW=true:=jr rfl (by kernel_rfl) axW
theorem aDj:aT.1 89=none∧aT.2 89=some arF∧arF.code.bW=true:=jr rfl (by kernel_rfl) axY
theorem aDk:aT.1 90=none∧aT.2 90=some al1∧al1.code.bW=true:=jr rfl (by kernel_rfl) ax0
theorem aDl:aT.1 91=none∧aT.2 91=some arG∧arG.code.bW=true:=jr rfl (by kernel_rfl) ax2
theorem aDm:aT.1 92=none∧aT.2 92=some ahc∧ahc.code.bW=true:=jr rfl (by kernel_rfl) ax4
theorem aDU:aT.1 93=none∧aT.2 93=some arH∧arH.code.bW=true:=jr rfl (by kernel_rfl) ax6
theorem aDV:aT.1 94=none∧aT.2 94=some arI∧arI.code.bW=true:=jr rfl (by kernel_rfl) ax8
theorem aDn:aT.1 95=none∧aT.2 95=some ao3∧ao3.code.bW=true:=jr rfl (by kernel_rfl) aya
theorem aDo:aT.1 96=none∧aT.2 96=some ao5∧ao5.code.bW=true:=jr rfl (by kernel_rfl) ayc
theorem aDp:aT.1 97=none∧aT.2 97=some ao7∧ao7.code.bW=true:=jr rfl (by kernel_rfl) aye
theorem aDq:aT.1 98=none∧aT.2 98=some arJ∧arJ.code.bW=true:=jr rfl (by kernel_rfl) ayg
theorem aDr:aT.1 99=none∧aT.2 99=some arK∧arK.code.bW=true:=jr rfl (by kernel_rfl) ayi
theorem aAR:aT.1 100=none∧aT.2 100=some ajc∧ajc.code.bW=true:=jr rfl (by kernel_rfl) arM
theorem aAS:aT.1 101=none∧aT.2 101=some ajd∧ajd.code.bW=true:=jr rfl (by kernel_rfl) arO
theorem aDD:aT.1 102=none∧aT.2 102=some aje∧aje.code.bW=true:=jr rfl (by kernel_rfl) arQ
theorem aAT:aT.1 103=none∧aT.2 103=some ajf∧ajf.code.bW=true:=jr rfl (by kernel_rfl) arS
theorem aDE:aT.1 104=none∧aT.2 104=some ajg∧ajg.code.bW=true:=jr rfl (by kernel_rfl) arU
theorem aAU:aT.1 105=none∧aT.2 105=some WL∧WL.code.bW=true:=jr rfl (by kernel_rfl) arW
theorem aAV:aT.1 106=none∧aT.2 106=some WO∧WO.code.bW=true:=jr rfl (by kernel_rfl) arY
theorem aAW:aT.1 107=none∧aT.2 107=some ajh∧ajh.code.bW=true:=jr rfl (by kernel_rfl) ar0
theorem aAX:aT.1 108=none∧aT.2 108=some aji∧aji.code.bW=true:=jr rfl (by kernel_rfl) ar2
theorem aAY:aT.1 109=none∧aT.2 109=some ajj∧ajj.code.bW=true:=jr rfl (by kernel_rfl) ar4
theorem aAZ:aT.1 110=none∧aT.2 110=some afU∧afU.code.bW=true:=jr rfl (by kernel_rfl) ar6
theorem aA0:aT.1 111=none∧aT.2 111=some afV∧afV.code.bW=true:=jr rfl (by kernel_rfl) ar8
theorem aA1:aT.1 112=none∧aT.2 112=some afW∧afW.code.bW=true:=jr rfl (by kernel_rfl) asa
theorem ayW:aT.1 113=none∧aT.2 113=some afX∧afX.code.bW=true:=jr rfl (by kernel_rfl) asc
theorem ayX:aT.1 114=none∧aT.2 114=some acX∧acX.code.bW=true:=jr rfl (by kernel_rfl) asf
theorem ayY:aT.1 115=none∧aT.2 115=some Ul∧Ul.code.bW=true:=jr rfl (by kernel_rfl) ash
theorem aA2:aT.1 116=none∧aT.2 116=some ajm∧ajm.code.bW=true:=jr rfl (by kernel_rfl) asj
theorem aA3:aT.1 117=none∧aT.2 117=some ajn∧ajn.code.bW=true:=jr rfl (by kernel_rfl) asn
theorem aA4:aT.1 118=none∧aT.2 118=some afY∧afY.code.bW=true:=jr rfl (by kernel_rfl) asq
theorem aA5:aT.1 119=none∧aT.2 119=some ajo∧ajo.code.bW=true:=jr rfl (by kernel_rfl) asu
theorem aA6:aT.1 120=none∧aT.2 120=some ajp∧ajp.code.bW=true:=jr rfl (by kernel_rfl) asw
theorem aA7:aT.1 121=none∧aT.2 121=some afZ∧afZ.code.bW=true:=jr rfl (by kernel_rfl) asy
theorem aA8:aT.1 122=none∧aT.2 122=some af0∧af0.code.bW=true:=jr rfl (by kernel_rfl) asA
theorem aA9:aT.1 123=none∧aT.2 123=some af2∧af2.code.bW=true:=jr rfl (by kernel_rfl) asC
theorem aBa:aT.1 124=none∧aT.2 124=some ajq∧ajq.code.bW=true:=jr rfl (by kernel_rfl) asE
theorem aBb:aT.1 125=none∧aT.2 125=some ajr∧ajr.code.bW=true:=jr rfl (by kernel_rfl) asG
theorem aBd:aT.1 126=none∧aT.2 126=some ajs∧ajs.code.bW=true:=jr rfl (by kernel_rfl) asI
theorem aBe:aT.1 127=none∧aT.2 127=some ajt∧ajt.code.bW=true:=jr rfl (by kernel_rfl) asK
theorem aBf:aT.1 128=none∧aT.2 128=some aju∧aju.code.bW=true:=jr rfl (by kernel_rfl) asM
theorem aBg:aT.1 129=none∧aT.2 129=some ajv∧ajv.code.bW=true:=jr rfl (by kernel_rfl) asO
theorem aDF:aT.1 130=none∧aT.2 130=some ajw∧ajw.code.bW=true:=jr rfl (by kernel_rfl) asQ
theorem aDG:aT.1 131=none∧aT.2 131=some ajx∧ajx.code.bW=true:=jr rfl (by kernel_rfl) asS
theorem aBh:aT.1 132=none∧aT.2 132=some af3∧af3.code.bW=true:=jr rfl (by kernel_rfl) asU
theorem aBi:aT.1 133=none∧aT.2 133=some ajy∧ajy.code.bW=true:=jr rfl (by kernel_rfl) asW
theorem ayZ:aT.1 134=none∧aT.2 134=some af4∧af4.code.bW=true:=jr rfl (by kernel_rfl) asY
theorem aBj:aT.1 135=none∧aT.2 135=some af5∧af5.code.bW=true:=jr rfl (by kernel_rfl) as0
theorem aBk:aT.1 136=none∧aT.2 136=some af6∧af6.code.bW=true:=jr rfl (by kernel_rfl) as2
theorem aDH:aT.1 137=none∧aT.2 137=some ajz∧ajz.code.bW=true:=jr rfl (by kernel_rfl) as4
theorem aBl:aT.1 138=none∧aT.2 138=some af7∧af7.code.bW=true:=jr rfl (by kernel_rfl) as6
theorem aBm:aT.1 139=none∧aT.2 139=some aac∧aac.code.bW=true:=jr rfl (by kernel_rfl) as8
theorem aBn:aT.1 140=none∧aT.2 140=some ajA∧ajA.code.bW=true:=jr rfl (by kernel_rfl) ata
theorem aBo:aT.1 141=none∧aT.2 141=some ajB∧ajB.code.bW=true:=jr rfl (by kernel_rfl) atc
theorem aBp:aT.1 142=none∧aT.2 142=some af8∧af8.code.bW=true:=jr rfl (by kernel_rfl) ate
theorem aBq:aT.1 143=none∧aT.2 143=some af9∧af9.code.bW=true:=jr rfl (by kernel_rfl) atg
theorem aBr:aT.1 144=none∧aT.2 144=some ajE∧ajE.code.bW=true:=jr rfl (by kernel_rfl) ati
theorem aBs:aT.1 145=none∧aT.2 145=some ajF∧ajF.code.bW=true:=jr rfl (by kernel_rfl) atl
theorem aBt:aT.1 146=none∧aT.2 146=some ajG∧ajG.code.bW=true:=jr rfl (by kernel_rfl) atn
theorem aBu:aT.1 147=none∧aT.2 147=some ajH∧ajH.code.bW=true:=jr rfl (by kernel_rfl) atp
theorem aDI:aT.1 148=none∧aT.2 148=some ajI∧ajI.code.bW=true:=jr rfl (by kernel_rfl) atr
theorem aBv:aT.1 149=none∧aT.2 149=some aga∧aga.code.bW=true:=jr rfl (by kernel_rfl) atu
theorem aBw:aT.1 150=none∧aT.2 150=some ajJ∧ajJ.code.bW=true:=jr rfl (by kernel_rfl) atw
theorem aBx:aT.1 151=none∧aT.2 151=some ajK∧ajK.code.bW=true:=jr rfl (by kernel_rfl) aty
theorem aBy:aT.1 152=none∧aT.2 152=some ajL∧ajL.code.bW=true:=jr rfl (by kernel_rfl) atA
theorem aBz:aT.1 154=none∧aT.2 154=some ajM∧ajM.code.bW=true:=jr rfl (by kernel_rfl) atD
theorem aDJ:aT.1 156=none∧aT.2 156=some ajN∧ajN.code.bW=true:=jr rfl (by kernel_rfl) atF
theorem aDK:aT.1 157=none∧aT.2 157=some ajO∧ajO.code.bW=true:=jr rfl (by kernel_rfl) atH
theorem aDL:aT.1 158=none∧aT.2 158=some ajP∧ajP.code.bW=true:=jr rfl (by kernel_rfl) atK
def wBL:List (Nat×Bt):=[(73,.del 1),(74,.clip 23),(93,.clone 1 1),(94,.clip 1),(102,.clip 1),(104,.clip 5),(130,.clip 2),(131,.clip 4),(137,.clone 2 32),(148,.del 2),(153,.ins 2 32)]
def wB:FuncId→Option Bt:=agb wBL
theorem azE(d:Nat):∀p∈wBL,BOk (aQ aT (d+1)) p.1 p.2 :=
 aA.2 ⟨anw (bytes:=24) (zero:=[(.slice none 1 0 0 true)]) rfl rfl (show aT.2 73=some (aom 1 24 [(.slice none 1 0 0 true)])by kernel_rfl),aA.2 ⟨Mx rfl (show aT.2 74=some (Uf 23)by kernel_rfl),aA.2 ⟨afD (zero:=[(.int .u8 0)]) rfl (show aT.2 93=some (N_ 1 1 [(.int .u8 0)])by kernel_rfl),aA.2 ⟨Mx rfl (show aT.2 94=some (Uf 1)by kernel_rfl),aA.2 ⟨Mx rfl (show aT.2 102=some (Uf 1)by kernel_rfl),aA.2 ⟨Mx rfl (show aT.2 104=some (Uf 5)by kernel_rfl),aA.2 ⟨Mx rfl (show aT.2 130=some (Uf 2)by kernel_rfl),aA.2 ⟨Mx rfl (show aT.2 131=some (Uf 4)by kernel_rfl),aA.2 ⟨afD (zero:=[(.str []),(.str [])]) rfl (show aT.2 137=some (N_ 2 32 [(.str []),(.str [])])by kernel_rfl),aA.2 ⟨anw (bytes:=32) (zero:=[(.str []),(.str [])]) rfl rfl (show aT.2 148=some (aom 2 32 [(.str []),(.str [])])by kernel_rfl),aA.2 ⟨avf rfl,(λ_ h=>by cases h)⟩⟩⟩⟩⟩⟩⟩⟩⟩⟩⟩
theorem KG(d:Nat):∀f b,wB f=some b→BOk (aQ aT (d+1)) f b:=λf b h=>azE d (f,b) (SX h)
def b_(n:Int)(m:Int):Option (Int) :=
 (au6 .i64 n m).bind λ(x1:Int)=>cond (decide (x1<0)) (some (IntKind.i64.wrap (x1+m))) (some x1)
def aad(n:Int)(m:Int)(r:Int):AV×WH:=((.int .i64 r),[])
theorem dw(d:Nat){n:Int}{m:Int}{r:Int}(h:b_ n m=some r):Spec (aQ aT (d+1)) 16 [(.int .i64 n),(.int .i64 m)] [] (aad n m r).1 (aad n m r).2:=by
 unfold b_ at h
 exact bK nB aCh h (.bd λx1 q1=>.v 7 (.int .i64 x1)<|.ob (azm q1:Mg .rem .i64 n m=some (.int .i64 x1))<|.br 9 (λ_=>Fn Fo [] none) λ_=>Fn Fo [] none)
def Ak(n:Int):Option (List UInt8) :=
 (b_ n 6).bind λ(x1:Int)=>(dH ([([]:List UInt8),[49],[50],[116,104,114,101,101],[115,105,120,116,101,101,110,32,98,121,116,101,115,32,105,116],[52]]:List (List UInt8)) x1).bind λ(x2:List UInt8)=>some x2
def WV(n:Int)(r:List UInt8):AV×WH:=((.str r),[])
theorem Oj(d:Nat){n:Int}{r:List UInt8}(h:Ak n=some r):Spec (aQ aT (d+2)) 32 [(.int .i64 n)] [] (WV n r).1 (WV n r).2:=by
 unfold Ak at h
 exact bK nB aCv h (.bd λx1 q1=>jw (dw (d+0) q1)<|.bd λx2 q2=>.v 6 (.str x2)<|.ob (aqt R_S q2:wP (.index false 6 1 (.c (.agg [(.str ([]:List UInt8)),(.str [49]),(.str [50]),(.str ([116,104,114,101,101])),(.str ([115,105,120,116,101,101,110,32,98,121,116,101,115,32,105,116])),(.str [52])])) (.c (.int .i64 x1)))=some (.str x2))<|Fn Fo [] none)
abbrev aht(x1:Int)(n:Int):Fast×WH:=([(0,(.int .i64 n)),(4,(.int .i64 x1))],[])
def aex(x1:Int)(n:Int):Bool→Ex×Fast×WH:=λe=>(.normal,[(0,(.int .i64 n)),(4,(.int .i64 x1)),(5,(.bool e))],[])
def ML(x1:Int)(n:Int):Option (Bool) :=
 cond (x1==0) (some true) (cond (x1==1) (some true) (some (x1==2)))
theorem ajQ(d:Nat){x1:Int}{n:Int}{r:Bool}(h:ML x1 n=some r):dx (bF (aQ aT (d+0)) KK 35 acN) 0 (aht x1 n) (aex x1 n r):=by
 unfold ML at h
 exact bU nB aes h (.br 5 (λ_=>E0 [0,4,5]) λ_=>.br 5 (λ_=>E0 [0,4,5]) λ_=>E0 [0,4,5])
def CY(n:Int):Option (Int) :=
 (b_ n 7).bind λ(x1:Int)=>(ML x1 n).bind λ(x2:Bool)=>cond x2 ((b_ (IntKind.i64.wrap (Int.tdiv n 7)) 40).bind λ(x3:Int)=>some x3) (cond (x1==3) ((b_ (IntKind.i64.wrap (Int.tdiv n 7)) 63).bind λ(x4:Int)=>(aiL .i64 1 (IntKind.u64.wrap x4)).bind λ(x5:Int)=>(b_ (IntKind.i64.wrap (Int.tdiv n 441)) 3).bind λ(x6:Int)=>some (IntKind.i64.wrap (x5-x6))) (cond (x1==4) ((b_ (IntKind.i64.wrap (Int.tdiv n 7)) 3).bind λ(x7:Int)=>some (IntKind.i64.wrap (4611686018427387903-x7))) (cond (x1==5) ((b_ (IntKind.i64.wrap (Int.tdiv n 7)) 1000).bind λ(x8:Int)=>some x8) (some n))))
def ac2(n:Int)(r:Int):AV×WH:=((.int .i64 r),[])
theorem Al(d:Nat){n:Int}{r:Int}(h:CY n=some r):Spec (aQ aT (d+2)) 37 [(.int .i64 n)] [] (ac2 n r).1 (ac2 n r).2:=by
 unfold CY at h
 exact bK nB aCy h (.bd λx1 q1=>jw (dw (d+0) q1)<|.bd λx2 q2=>Jn [0,4] [none,none] [] [] (ajQ (d+1) q2)<|.br 5 (λ_=>.bd λx3 q3=>jw (dw (d+0) q3)<|Fn Fo [] none) λ_=>.br 12 (λ_=>.bd λx4 q4=>jw (dw (d+0) q4)<|.bd λx5 q5=>.v 18 (.int .i64 x5)<|.ob (aqv q5:Yh .shl (.int .i64 1) (.int .u64 (IntKind.u64.wrap x4))=some (.int .i64 x5))<|.bd λx6 q6=>jw (dw (d+0) q6)<|Fn Fo [] none) λ_=>.br 23 (λ_=>.bd λx7 q7=>jw (dw (d+0) q7)<|Fn Fo [] none) λ_=>.br 29 (λ_=>.bd λx8 q8=>jw (dw (d+0) q8)<|Fn Fo [] none) λ_=>Fn Fo [] none)
def ac3(n:Int):Option (Int) :=
 (CY n).bind λ(x1:Int)=>some (if (if (4611686018427387903:Int)<x1 then 4611686018427387903 else x1)>0 then (if (4611686018427387903:Int)<x1 then 4611686018427387903 else x1)else 0)
def ac4(n:Int)(r:Int):AV×WH:=((.int .i64 r),[])
theorem atN(d:Nat){n:Int}{r:Int}(h:ac3 n=some r):Spec (aQ aT (d+3)) 109 [(.int .i64 n)] [] (ac4 n r).1 (ac4 n r).2:=by
 unfold ac3 at h
 exact bK nB aAY h (.bd λx1 q1=>jw (Al (d+0) q1)<|Fn Fo [] none)
def MN(bC:dJ):Option (aI) :=
 (b_ bC.Inc 4).bind λ(x1:Int)=>(b_ bC.Status 3).bind λ(x2:Int)=>(b_ bC.rG 5).bind λ(x3:Int)=>(b_ bC.Load 12).bind λ(x4:Int)=>(b_ bC.Inc 19).bind λ(x5:Int)=>cond (x5==18) ((ac3 bC.rG).bind λ(x6:Int)=>some (⟨x1,x2,x6,x4,bC.fq⟩:aI)) (some (⟨x1,x2,x3,x4,bC.fq⟩:aI))
def WW(bC:dJ)(r:aI):AV×WH:=((.agg (Ca r)),[])
theorem ac5(d:Nat){bC:dJ}{r:aI}(h:MN bC=some r):Spec (aQ aT (d+4)) 76 [(.agg (Aj bC))] [] (WW bC r).1 (WW bC r).2:=by
 unfold MN at h
 exact bK nB aC7 h (.bd λx1 q1=>jw (dw (d+2) q1)<|.bd λx2 q2=>jw (dw (d+2) q2)<|.bd λx3 q3=>jw (dw (d+2) q3)<|.bd λx4 q4=>jw (dw (d+2) q4)<|.st none<|.bd λx5 q5=>jw (dw (d+2) q5)<|.br 22 (λ_=>.bd λx6 q6=>jw (atN (d+0) q6)<|.st none<|.st none<|Fn Fo [] none) λ_=>.st none<|Fn Fo [] none)
abbrev ac6(s11:Int×List aI)(l:List dJ)(n:Int):Fast×WH:=([(0,(bV l)),(1,(.int .i64 n)),(5,(.acc 0 0 5 s11.2.length true)),(6,(.int .i64 s11.1))],[(some (.cells (bP s11.2) false true))])
def aaE(s11:Int×List aI)(l:List dJ)(n:Int):Unit⊕Unit→Ex×Fast×WH:=fun
 |.inl e=>(.normal,[(0,(bV l)),(1,(.int .i64 n)),(5,(.acc 0 0 5 s11.2.length true)),(6,(.int .i64 s11.1))],[(some (.cells (bP s11.2) false true))])
 |.inr e=>((.exit 0),[(5,(.acc 0 0 5 s11.2.length true))],[(some (.cells (bP s11.2) false true))])
def KH(s11:Int×List aI)(l:List dJ)(n:Int):Option (Unit⊕Unit) :=
 cond (decide (s11.1<(l.length:Int))) (cond (decide (s11.1<n)) (some (.inl ())) (some (.inr ()))) (some (.inr ()))
theorem Um(d:Nat){s11:Int×List aI}{l:List dJ}{n:Int}{r:Unit⊕Unit}(h:KH s11 l n=some r):dx (bF (aQ aT (d+0)) KK 27 Oh) 0 (ac6 s11 l n) (aaE s11 l n r):=by
 unfold KH at h
 exact bU nB O5 h (.br 11 (λ_=>.br 15 (λ_=>E1 [0,1,5,6] [none,none,none,none] [] [.slice none 5 0 0 true,.undef,.slice none 5 0 0 true,.undef]) λ_=>E1 [5] [none] [] [.slice none 5 0 0 true]) λ_=>E1 [5] [none] [] [.slice none 5 0 0 true])
def CZ(l:List dJ)(n:Int)(s11:Int×List aI):List AV×WH:=([(bV l),(.int .i64 n),(.acc 0 0 5 s11.2.length true),(.int .i64 s11.1)],[(some (.cells (bP s11.2) false true))])
def Gw(l:List dJ)(n:Int):(List aI)→Ex×Fast×WH:=λe=>((.exit 0),[(5,(.acc 0 0 5 e.length true))],[(some (.cells (bP e) false true))])
abbrev ac7(l:List dJ)(n:Int):=eF [0,1,5,6] (CZ l n) (Gw l n)
def Am(l:List dJ)(n:Int)(s11:Int×List aI):Option ((Int×List aI)⊕((List aI))) :=
 (KH s11 l n).bind λ(dZ:Unit⊕Unit)=>cond (jY dZ) ((dH l s11.1).bind λ(nO:dJ)=>(MN nO).bind λ(dP:aI)=>gd (dR 40 (s11.2++[dP]).length) (some (.inl ((IntKind.i64.wrap (s11.1+1)),(s11.2++[dP]))))) (some (.inr s11.2))
def QN(l:List dJ)(n:Int)(s11:Int×List aI):Option ((List aI)):=dG (Am l n) KK s11
theorem aey(d:Nat){l:List dJ}{n:Int}{s11:Int×List aI}{r:(Int×List aI)⊕((List aI))}(h:Am l n s11=some r):dx (bF (aQ aT (d+4)) KK 27 acL) 0 (jM [0,1,5,6] (CZ l n s11)) (ac7 l n r):=by
 unfold Am at h
 exact bU nB afM h (.bd λdZ MO=>.ite (λVb=>Jn [0,1,5,6] [none,none,none,none] [] [.slice none 5 0 0 true,.undef,.slice none 5 0 0 true,.undef] (kI (il Vb) (Um (d+4) MO))<|.bd λnO PZ=>Ix Lh 21 PZ<|.bd λdP Md=>jw (ac5 (d+0) Md)<|.gd λq16=>Ap lX 25 q16<|E1 [0,1,5,6] [none,none,none,none] [] [.slice none 5 0 0 true,.undef,.slice none 5 0 0 true,.undef]) λVb=>Jn [0,1,5,6] [none,none,none,none] [] [.slice none 5 0 0 true,.undef,.slice none 5 0 0 true,.undef] (kI (Ai Vb) (Um (d+4) MO))<|E1 [5] [none] [] [.slice none 5 0 0 true])
theorem aez(d:Nat){l:List dJ}{n:Int}{s11:Int×List aI}{r:(List aI)}(h:QN l n s11=some r):dx (fQ (bF (aQ aT (d+4)) KK 27 acL) [0,1,5,6] KK) 0 (jM [0,1,5,6] (CZ l n s11)) (Gw l n r) :=
 dS (st:=CZ l n) (fin:=Gw l n) (step:=Am l n) (λe=>by(intro h;cases h)) (λs x h=>aey d h) KK s11 r h
def QO(l:List dJ)(n:Int):Option (List aI) :=
 (QN l n (0,[])).bind λ(kJ:(List aI))=>some kJ
def WX(l:List dJ)(n:Int)(r:List aI):AV×WH:=((fK r),[])
theorem amo(d:Nat){l:List dJ}{n:Int}{r:List aI}(h:QO l n=some r):Spec (aQ aT (d+5)) 33 [(bV l),(.int .i64 n)] [] (WX l n r).1 (WX l n r).2:=by
 unfold QO at h
 exact bK nB aAM h (.z 4 [.slice none 5 0 0 true]<|.z 5 [.slice none 5 0 0 true]<|.bd λkJ J4=>Lp [none,none,Tw,none] [] [.slice none 5 0 0 true,.undef,.slice none 5 0 0 true,.undef] (aez (d+0) J4)<|Fn Fo [.slice none 5 0 0 true] none)
def Ol(n:Int):Option (List UInt8) :=
 (b_ n 16).bind λ(x1:Int)=>(dH ([[97],[98],[99],[100],[101],[102],[103],[104],[107,97],[107,98],[107,99],[107,100],[120],[121],[122,122],[101,105,103,104,116,107,101,121]]:List (List UInt8)) x1).bind λ(x2:List UInt8)=>some x2
def ac8(n:Int)(r:List UInt8):AV×WH:=((.str r),[])
theorem ac9(d:Nat){n:Int}{r:List UInt8}(h:Ol n=some r):Spec (aQ aT (d+2)) 84 [(.int .i64 n)] [] (ac8 n r).1 (ac8 n r).2:=by
 unfold Ol at h
 exact bK nB aDe h (.bd λx1 q1=>jw (dw (d+0) q1)<|.bd λx2 q2=>.v 6 (.str x2)<|.ob (aqt R_S q2:wP (.index false 16 1 (.c (.agg [(.str [97]),(.str [98]),(.str [99]),(.str [100]),(.str [101]),(.str [102]),(.str [103]),(.str [104]),(.str ([107,97])),(.str ([107,98])),(.str ([107,99])),(.str ([107,100])),(.str [120]),(.str [121]),(.str ([122,122])),(.str ([101,105,103,104,116,107,101,121]))])) (.c (.int .i64 x1)))=some (.str x2))<|Fn Fo [] none)
abbrev ajR(x1:Int)(value:Int)(old:Int)(x2:List UInt8):Fast×WH:=([(2,(.int .i64 value)),(3,(.int .i64 old)),(8,(.ptr (some (0,0)))),(9,(.ptr (some (1,0))))],[(some (.cells (iy (⟨0,([]:List UInt8),([]:List UInt8),([]:List UInt8)⟩:bZ)) false false)),(some (.cells (iy (⟨(IntKind.i64.wrap (1+x1)),x2,([]:List UInt8),([]:List UInt8)⟩:bZ)) false false))])
def ahu(x1:Int)(value:Int)(old:Int)(x2:List UInt8):Bool→Ex×Fast×WH:=λe=>(.normal,[(2,(.int .i64 value)),(3,(.int .i64 old)),(8,(.ptr (some (0,0)))),(9,(.ptr (some (1,0)))),(23,(.bool e))],[(some (.cells (iy (⟨0,([]:List UInt8),([]:List UInt8),([]:List UInt8)⟩:bZ)) false false)),(some (.cells (iy (⟨(IntKind.i64.wrap (1+x1)),x2,([]:List UInt8),([]:List UInt8)⟩:bZ)) false false))])
def QS(x1:Int)(value:Int)(old:Int)(x2:List UInt8):Option (Bool) :=
 cond ((IntKind.i64.wrap (1+x1))==2) (some true) (some ((IntKind.i64.wrap (1+x1))==4))
theorem amq(d:Nat){x1:Int}{value:Int}{old:Int}{x2:List UInt8}{r:Bool}(h:QS x1 value old x2=some r):dx (bF (aQ aT (d+0)) KK 34 afS) 0 (ajR x1 value old x2) (ahu x1 value old x2 r):=by
 unfold QS at h
 exact bU nB ag9 h (.br 19 (λ_=>E0 [2,3,8,9,23]) λ_=>E0 [2,3,8,9,23])
abbrev ajS(x1:Int)(value:Int)(old:Int)(x2:List UInt8):Fast×WH:=([(2,(.int .i64 value)),(3,(.int .i64 old)),(8,(.ptr (some (0,0)))),(9,(.ptr (some (1,0))))],[(some (.cells (iy (⟨0,([]:List UInt8),([]:List UInt8),([]:List UInt8)⟩:bZ)) false false)),(some (.cells (iy (⟨(IntKind.i64.wrap (1+x1)),x2,([]:List UInt8),([]:List UInt8)⟩:bZ)) false false))])
def ahv(x1:Int)(value:Int)(old:Int)(x2:List UInt8):bZ→Ex×Fast×WH:=λe=>(.normal,[(3,(.int .i64 old)),(8,(.ptr (some (0,0)))),(9,(.ptr (some (1,0))))],[(some (.cells (iy (⟨0,([]:List UInt8),([]:List UInt8),([]:List UInt8)⟩:bZ)) false false)),(some (.cells (iy e) false false))])
def QT(x1:Int)(value:Int)(old:Int)(x2:List UInt8):Option (bZ) :=
 (QS x1 value old x2).bind λ(x3:Bool)=>cond x3 ((Ak value).bind λ(x4:List UInt8)=>some (⟨(IntKind.i64.wrap (1+x1)),x2,x4,([]:List UInt8)⟩:bZ)) (some (⟨(IntKind.i64.wrap (1+x1)),x2,([]:List UInt8),([]:List UInt8)⟩:bZ))
theorem amr(d:Nat){x1:Int}{value:Int}{old:Int}{x2:List UInt8}{r:bZ}(h:QT x1 value old x2=some r):dx (bF (aQ aT (d+2)) KK 34 ai8) 0 (ajS x1 value old x2) (ahv x1 value old x2 r):=by
 unfold QT at h
 exact bU nB ai9 h (.bd λx3 q3=>Jn [2,3,8,9] [none,none,none,none] [] [] (amq (d+2) q3)<|.br 23 (λ_=>.bd λx4 q4=>jw (Oj (d+0) q4)<|.st none<|E0 [3,8,9]) λ_=>E0 [3,8,9])
def ada(kind:Int)(key:Int)(value:Int)(old:Int):Option (bZ) :=
 (b_ kind 4).bind λ(x1:Int)=>(Ol key).bind λ(x2:List UInt8)=>(QT x1 value old x2).bind λ(x5:bZ)=>cond (x5.Kind==4) ((Ak old).bind λ(x6:List UInt8)=>some (⟨x5.Kind,x5.Key,x5.Value,x6⟩:bZ)) (some x5)
def agc(kind:Int)(key:Int)(value:Int)(old:Int)(r:bZ):AV×WH:=((.agg (iy r)),[])
theorem ayk(d:Nat){kind:Int}{key:Int}{value:Int}{old:Int}{r:bZ}(h:ada kind key value old=some r):Spec (aQ aT (d+3)) 77 [(.int .i64 kind),(.int .i64 key),(.int .i64 value),(.int .i64 old)] [] (agc kind key value old r).1 (agc kind key value old r).2:=by
 unfold ada at h
 exact bK nB aC8 h (.bd λx1 q1=>jw (dw (d+1) q1)<|.bd λx2 q2=>jw (ac9 (d+0) q2)<|.st none<|.bd λx5 q5=>Jn [2,3,8,9] [none,none,none,none] [] [] (amr (d+0) q5)<|.br 29 (λ_=>.bd λx6 q6=>jw (Oj (d+0) q6)<|.st none<|.st none<|Fn Fo [] none) λ_=>.st none<|Fn Fo [] none)
def KI(fE:List UInt8)(n:Int):Option (List UInt8) :=
 cond (decide ((fE.length:Int)>n)) ((OX fE 0 n).bind λ(x1:List UInt8)=>some x1) (some fE)
def aae(fE:List UInt8)(n:Int)(r:List UInt8):AV×WH:=((.str r),[])
theorem agd(d:Nat){fE:List UInt8}{n:Int}{r:List UInt8}(h:KI fE n=some r):Spec (aQ aT (d+1)) 78 [(.str fE),(.int .i64 n)] [] (aae fE n r).1 (aae fE n r).2:=by
 unfold KI at h
 exact bK nB aC9 h (.br 8 (λ_=>.bd λx1 q1=>.v 11 (.str x1)<|.ob (aqs q1:wP (.sj (.c (.str fE)) none (some (.c (.int .i64 n))))=some (.str x1))<|Fn Fo [] none) λ_=>Fn Fo [] none)
def Ll(bC:eX):Option (bJ) :=
 (b_ bC.Client 4).bind λ(x1:Int)=>(b_ bC.Seq 9).bind λ(x2:Int)=>(ada bC.Kind bC.Key bC.Value bC.Old).bind λ(x3:bZ)=>(b_ bC.vQ 16).bind λ(x4:Int)=>cond (x4==10) ((KI bC.Text 12).bind λ(x5:List UInt8)=>some (⟨x1,(IntKind.i64.wrap (1+x2)),(⟨x3.Kind,x5,x3.Value,x3.Old⟩:bZ)⟩:bJ)) (cond (x4==11) ((KI bC.Text 20).bind λ(x6:List UInt8)=>some (⟨x1,(IntKind.i64.wrap (1+x2)),(⟨x3.Kind,x3.Key,x6,x3.Old⟩:bZ)⟩:bJ)) (cond (x4==12) ((b_ (IntKind.i64.wrap (Int.tdiv bC.vQ 16)) 8).bind λ(x7:Int)=>some (⟨x1,(IntKind.i64.wrap (1+x2)),(⟨(IntKind.i64.wrap (x7-1)),x3.Key,x3.Value,x3.Old⟩:bZ)⟩:bJ)) (cond (x4==13) ((b_ (IntKind.i64.wrap (Int.tdiv bC.vQ 16)) 9).bind λ(x8:Int)=>some (⟨(IntKind.i64.wrap (x8-2)),(IntKind.i64.wrap (1+x2)),x3⟩:bJ)) (cond (x4==14) ((CY (IntKind.i64.wrap (Int.tdiv bC.vQ 16))).bind λ(x9:Int)=>some (⟨x1,x9,x3⟩:bJ)) (cond (x4==15) (some (⟨0,0,(⟨0,([]:List UInt8),([]:List UInt8),([]:List UInt8)⟩:bZ)⟩:bJ)) (some (⟨x1,(IntKind.i64.wrap (1+x2)),x3⟩:bJ)))))))
def adb(bC:eX)(r:bJ):AV×WH:=((.agg (wh r)),[])
theorem WY(d:Nat){bC:eX}{r:bJ}(h:Ll bC=some r):Spec (aQ aT (d+4)) 34 [(.agg (IW bC))] [] (adb bC r).1 (adb bC r).2:=by
 unfold Ll at h
 exact bK nB aCw h (.bd λx1 q1=>jw (dw (d+2) q1)<|.bd λx2 q2=>jw (dw (d+2) q2)<|.bd λx3 q3=>jw (ayk (d+0) q3)<|.st none<|.bd λx4 q4=>jw (dw (d+2) q4)<|.br 24 (λ_=>.bd λx5 q5=>jw (agd (d+2) q5)<|.st none<|.st none<|Fn Fo [] none) λ_=>.br 31 (λ_=>.bd λx6 q6=>jw (agd (d+2) q6)<|.st none<|.st none<|Fn Fo [] none) λ_=>.br 38 (λ_=>.bd λx7 q7=>jw (dw (d+2) q7)<|.st none<|.st none<|Fn Fo [] none) λ_=>.br 47 (λ_=>.bd λx8 q8=>jw (dw (d+2) q8)<|.st none<|.st none<|Fn Fo [] none) λ_=>.br 55 (λ_=>.bd λx9 q9=>jw (Al (d+1) q9)<|.st none<|.st none<|Fn Fo [] none) λ_=>.br 62 (λ_=>.st none<|.st none<|Fn Fo [] none) λ_=>.st none<|Fn Fo [] none)
def EC(p_r:bJ):Option (Bool) :=
 some (p_r.Client==0&&(p_r.Seq==0&&(p_r.Op.Kind==0&&(p_r.Op.Key==([]:List UInt8)&&(p_r.Op.Value==([]:List UInt8)&&(p_r.Op.Old==([]:List UInt8)&&true))))))
def QU(p_r:bJ)(r:Bool):AV×WH:=((.bool r),[])
theorem ahw(d:Nat){p_r:bJ}{r:Bool}(h:EC p_r=some r):Spec (aQ aT (d+1)) 79 [(.agg (wh p_r))] [] (QU p_r r).1 (QU p_r r).2:=by
 unfold EC at h
 exact bK nB aDa h (Fn Fo [] none)
abbrev YK(o:bZ):Fast×WH:=([(1,(.ptr (some (0,0))))],[(some (.cells (iy o) false false))])
def WZ(o:bZ):Unit⊕Unit→Ex×Fast×WH:=fun
 |.inl e=>(.ret,[(2,(.bool false))],[])
 |.inr e=>(.normal,[(1,(.ptr (some (0,0))))],[(some (.cells (iy o) false false))])
def E_(o:bZ):Option (Unit⊕Unit) :=
 cond (decide (o.Kind<1)) (some (.inl ())) (cond (decide (o.Kind>4)) (some (.inl ())) (cond (decide ((o.Key.length:Int)<1)) (some (.inl ())) (cond (decide ((o.Key.length:Int)>8)) (some (.inl ())) (cond (decide ((o.Value.length:Int)>16)) (some (.inl ())) (cond (decide ((o.Old.length:Int)>16)) (some (.inl ())) (some (.inr ())))))))
theorem O7(d:Nat){o:bZ}{r:Unit⊕Unit}(h:E_ o=some r):dx (bF (aQ aT (d+0)) KK 58 ajk) 0 (YK o) (WZ o r):=by
 unfold E_ at h
 exact bU nB ajl h (.br 6 (λ_=>E0 [2]) λ_=>.br 11 (λ_=>E0 [2]) λ_=>.br 17 (λ_=>E0 [2]) λ_=>.br 23 (λ_=>E0 [2]) λ_=>.br 29 (λ_=>E0 [2]) λ_=>.br 34 (λ_=>E0 [2]) λ_=>E0 [1])
def Bv(o:bZ):Option (Bool) :=
 (E_ o).bind λ(x1:Unit⊕Unit)=>cond (jY x1) (some false) (cond (o.Value==([]:List UInt8)) (cond (o.Old==([]:List UInt8)) (some true) (some (o.Kind==4))) (cond (o.Kind==2) (cond (o.Old==([]:List UInt8)) (some true) (some (o.Kind==4))) (cond (o.Kind==4) (cond (o.Old==([]:List UInt8)) (some true) (some (o.Kind==4))) (some false))))
def QV(o:bZ)(r:Bool):AV×WH:=((.bool r),[])
theorem Om(d:Nat){o:bZ}{r:Bool}(h:Bv o=some r):Spec (aQ aT (d+1)) 110 [(.agg (iy o))] [] (QV o r).1 (QV o r).2:=by
 unfold Bv at h
 exact bK nB aAZ h (.sk<|.bd λx1 q1=>.ite (λhb2=>Jn [1] [none] [] [] (kI (il hb2) (O7 (d+0) q1))<|Fn Fo [] none) λhb2=>Jn [1] [none] [] [] (kI (Ai hb2) (O7 (d+0) q1))<|.br 38 (λ_=>.br 52 (λ_=>Fn Fo [] none) λ_=>Fn Fo [] none) λ_=>.br 43 (λ_=>.br 52 (λ_=>Fn Fo [] none) λ_=>Fn Fo [] none) λ_=>.br 48 (λ_=>.br 52 (λ_=>Fn Fo [] none) λ_=>Fn Fo [] none) λ_=>Fn Fo [] none)
def Cg(p_r:bJ):Option (Bool) :=
 cond (decide (p_r.Client≥0)) (cond (decide (p_r.Client<4)) (cond (decide (p_r.Seq≥1)) (cond (decide (p_r.Seq≤4611686018427387903)) ((Bv p_r.Op).bind λ(x1:Bool)=>some x1) (some false)) (some false)) (some false)) (some false)
def O8(p_r:bJ)(r:Bool):AV×WH:=((.bool r),[])
theorem Un(d:Nat){p_r:bJ}{r:Bool}(h:Cg p_r=some r):Spec (aQ aT (d+2)) 80 [(.agg (wh p_r))] [] (O8 p_r r).1 (O8 p_r r).2:=by
 unfold Cg at h
 exact bK nB aDb h (.br 6 (λ_=>.br 11 (λ_=>.br 16 (λ_=>.br 21 (λ_=>.bd λx1 q1=>jw (Om (d+0) q1)<|Fn Fo [] none) λ_=>Fn Fo [] none) λ_=>Fn Fo [] none) λ_=>Fn Fo [] none) λ_=>Fn Fo [] none)
def rW(p_r:bJ):Option (Bool) :=
 (EC p_r).bind λ(x1:Bool)=>cond x1 (some true) ((Cg p_r).bind λ(x2:Bool)=>some x2)
def Uo(p_r:bJ)(r:Bool):AV×WH:=((.bool r),[])
theorem FM(d:Nat){p_r:bJ}{r:Bool}(h:rW p_r=some r):Spec (aQ aT (d+3)) 35 [(.agg (wh p_r))] [] (Uo p_r r).1 (Uo p_r r).2:=by
 unfold rW at h
 exact bK nB aCx h (.bd λx1 q1=>jw (ahw (d+1) q1)<|.br 5 (λ_=>Fn Fo [] none) λ_=>.bd λx2 q2=>jw (Un (d+0) q2)<|Fn Fo [] none)
def qM(aV:List aF)(key:List UInt8)(s3:Int):List AV×WH:=([(.ptr (some (0,0))),(.str key),(.int .i64 s3)],[(some (.cells [(.acc 1 0 2 aV.length true)] false false)),(some (.cells (aO aV) false true))])
def u_(aV:List aF)(key:List UInt8):(Int×Bool)⊕Unit→Ex×Fast×WH:=fun
 |.inl e=>(.ret,[(4,(.int .i64 e.1)),(5,(.bool e.2))],[(some (.cells [(.acc 1 0 2 aV.length true)] false false)),(some (.cells (aO aV) false true))])
 |.inr e=>((.exit 0),[(0,(.ptr (some (0,0))))],[(some (.cells [(.acc 1 0 2 aV.length true)] false false)),(some (.cells (aO aV) false true))])
abbrev P5(aV:List aF)(key:List UInt8):=eF [0,1,6] (qM aV key) (u_ aV key)
def nH(aV:List aF)(key:List UInt8)(s3:Int):Option ((Int)⊕((Int×Bool)⊕Unit)) :=
 cond (decide (s3<(aV.length:Int))) ((dH aV s3).bind λ(x4:aF)=>cond (!(Op.bytesLess x4.Key key)) ((dH aV s3).bind λ(x5:aF)=>some (.inr (.inl (s3,(x5.Key==key))))) (some (.inl (IntKind.i64.wrap (s3+1))))) (some (.inr (.inr ())))
def Bw(aV:List aF)(key:List UInt8)(s3:Int):Option ((Int×Bool)⊕Unit):=dG (nH aV key) KK s3
theorem QW(d:Nat){aV:List aF}{key:List UInt8}{s3:Int}{r:(Int)⊕((Int×Bool)⊕Unit)}(h:nH aV key s3=some r):dx (bF (aQ aT (d+0)) KK 42 WT) 2 (jM [0,1,6] (qM aV key s3)) (P5 aV key r):=by
 unfold nH at h
 exact bU nB ac0 h (.br 13 (λ_=>.bd λx4 q4=>Ia bn 21 1 q4<|Ld bn 23 false 1 0 q4 (.str x4.Key) rfl<|.br 25 (λ_=>.bd λx5 q5=>Ia bn 32 1 q5<|Ld bn 34 false 1 0 q5 (.str x5.Key) rfl<|E0 [4,5]) λ_=>E0 [0,1,6]) λ_=>E0 [0])
theorem FN(d:Nat){aV:List aF}{key:List UInt8}{s3:Int}{r:(Int×Bool)⊕Unit}(h:Bw aV key s3=some r):dx (fQ (bF (aQ aT (d+0)) KK 42 WT) [0,1,6] KK) 2 (jM [0,1,6] (qM aV key s3)) (u_ aV key r) :=
 dS (st:=qM aV key) (fin:=u_ aV key) (step:=nH aV key) (λe=>by rcases e with e | e<;>(intro h;cases h)) (λs x h=>QW d h) KK s3 r h
def rX(key:List UInt8)(aV:List aF):Option (Int×Bool) :=
 (Bw aV key 0).bind λ(x6:(Int×Bool)⊕Unit)=>cond (jY x6) (some ((Bu x6).1,(Bu x6).2)) (some ((aV.length:Int),false))
def G8(key:List UInt8)(aV:List aF)(r:Int×Bool):AV×WH:=((.tuple [(.int .i64 r.1),(.bool r.2)]),[(some (.cells [(.acc 1 0 2 aV.length true)] false false)),(some (.cells (aO aV) false true))])
theorem W9(d:Nat){key:List UInt8}{aV:List aF}{r:Int×Bool}(h:rX key aV=some r):Spec (aQ aT (d+1)) 134 [(.ptr (some (0,0))),(.str key)] [(some (.cells [(.acc 1 0 2 aV.length true)] false false)),(some (.cells (aO aV) false true))] (G8 key aV r).1 (G8 key aV r).2:=by
 unfold rX at h
 exact bK nB ayZ h (.bd λx6 q6=>.ite (λGx=>Lp [none,none,none] [] [] (kI (il Gx) (FN (d+0) q6))<|Fn Fo [] none) λGx=>Lp [none,none,none] [] [] (kI (Ai Gx) (FN (d+0) q6))<|Fn Fo [] none)
abbrev Tp(x2:Int×Bool)(aV:List aF)(o:bZ):Fast×WH:=([(0,(.ptr (some (0,0)))),(3,(.ptr (some (2,0)))),(4,(.ptr (some (3,0)))),(5,(.int .i64 x2.1)),(6,(.bool x2.2))],[(some (.cells [(.acc 1 0 2 aV.length true)] false false)),(some (.cells (aO aV) false true)),(some (.cells (iy o) false false)),(some (.cells (fM (⟨0,([]:List UInt8)⟩:aJ)) false false))])
def QX(x2:Int×Bool)(aV:List aF)(o:bZ):Unit⊕Unit→Ex×Fast×WH:=fun
 |.inl e=>(.ret,[(4,(.ptr (some (2,0))))],[(some (.cells [(.acc 1 0 2 aV.length true)] false false)),(some (.cells (aO aV) false true)),(some (.cells (fM (⟨5,([]:List UInt8)⟩:aJ)) false false))])
 |.inr e=>(.normal,[(0,(.ptr (some (0,0)))),(3,(.ptr (some (2,0)))),(4,(.ptr (some (3,0)))),(5,(.int .i64 x2.1)),(6,(.bool x2.2))],[(some (.cells [(.acc 1 0 2 aV.length true)] false false)),(some (.cells (aO aV) false true)),(some (.cells (iy o) false false)),(some (.cells (fM (⟨0,([]:List UInt8)⟩:aJ)) false false))])
def y8(x2:Int×Bool)(aV:List aF)(o:bZ):Option (Unit⊕Unit) :=
 cond (!x2.2) (cond (decide ((aV.length:Int)≥8)) (some (.inl ())) (some (.inr ()))) (some (.inr ()))
theorem I7(d:Nat){x2:Int×Bool}{aV:List aF}{o:bZ}{r:Unit⊕Unit}(h:y8 x2 aV o=some r):dx (bF (aQ aT (d+0)) KK 147 CW) 2 (Tp x2 aV o) (QX x2 aV o r):=by
 unfold y8 at h
 exact bU nB FL h (.br 40 (λ_=>.br 47 (λ_=>.st none<|E0 [4]) λ_=>E0 [0,3,4,5,6]) λ_=>E0 [0,3,4,5,6])
abbrev Tq(x2:Int×Bool)(x6:List aF)(o:bZ)(aV:List aF):Fast×WH:=([(0,(.ptr (some (0,0)))),(4,(.ptr (some (2,0)))),(5,(.int .i64 x2.1)),(6,(.bool x2.2)),(7,(.acc 3 0 2 (x6++[(⟨o.Key,o.Value⟩:aF)]).length true))],[(some (.cells [(.acc 1 0 2 aV.length true)] false false)),(some (.cells (aO aV) false true)),(some (.cells (fM (⟨0,([]:List UInt8)⟩:aJ)) false false)),(some (.cells (aO (x6++[(⟨o.Key,o.Value⟩:aF)])) false true))])
def QY(x2:Int×Bool)(x6:List aF)(o:bZ)(aV:List aF):Int→Ex×Fast×WH:=λe=>(.normal,[(0,(.ptr (some (0,0)))),(4,(.ptr (some (2,0)))),(5,(.int .i64 e)),(7,(.acc 3 0 2 (x6++[(⟨o.Key,o.Value⟩:aF)]).length true))],[(some (.cells [(.acc 1 0 2 aV.length true)] false false)),(some (.cells (aO aV) false true)),(some (.cells (fM (⟨0,([]:List UInt8)⟩:aJ)) false false)),(some (.cells (aO (x6++[(⟨o.Key,o.Value⟩:aF)])) false true))])
def y9(x2:Int×Bool)(x6:List aF)(o:bZ)(aV:List aF):Option (Int) :=
 cond x2.2 (some (IntKind.i64.wrap (x2.1+1))) (some x2.1)
theorem Vd(d:Nat){x2:Int×Bool}{x6:List aF}{o:bZ}{aV:List aF}{r:Int}(h:y9 x2 x6 o aV=some r):dx (bF (aQ aT (d+0)) KK 147 xW) 2 (Tq x2 x6 o aV) (QY x2 x6 o aV r):=by
 unfold y9 at h
 exact bU nB Cc h (.br 65 (λ_=>E1 [0,4,5,7] [none,none,none,none] [] [.undef,.undef,.undef,.slice none 2 0 0 true]) λ_=>E1 [0,4,5,7] [none,none,none,none] [] [.undef,.undef,.undef,.slice none 2 0 0 true])
def Ao(o:bZ)(aV:List aF):Option (aJ×List aF) :=
 (Bv o).bind λ(x1:Bool)=>cond (!x1) (some ((⟨1,([]:List UInt8)⟩:aJ),aV)) ((rX o.Key aV).bind λ(x2:Int×Bool)=>cond (o.Kind==1) (cond (!x2.2) (some ((⟨4,([]:List UInt8)⟩:aJ),aV)) ((dH aV x2.1).bind λ(x3:aF)=>some ((⟨0,x3.Value⟩:aJ),aV))) (cond (o.Kind==2) ((y8 x2 aV o).bind λ(x4:Unit⊕Unit)=>cond (jY x4) (some ((⟨5,([]:List UInt8)⟩:aJ),aV)) ((OX aV 0 x2.1).bind λ(x6:List aF)=>gd (dR 32 x6.length) (gd (dR 32 (x6++[(⟨o.Key,o.Value⟩:aF)]).length) ((y9 x2 x6 o aV).bind λ(x9:Int)=>(OX aV x9 aV.length).bind λ(x10:List aF)=>gd (dR 32 ((x6++[(⟨o.Key,o.Value⟩:aF)])++x10).length) (some ((⟨0,([]:List UInt8)⟩:aJ),((x6++[(⟨o.Key,o.Value⟩:aF)])++x10))))))) (cond (o.Kind==3) (cond (!x2.2) (some ((⟨4,([]:List UInt8)⟩:aJ),aV)) ((OX aV 0 x2.1).bind λ(dZ:List aF)=>gd (dR 32 dZ.length) ((OX aV (IntKind.i64.wrap (x2.1+1)) aV.length).bind λ(nO:List aF)=>gd (dR 32 (dZ++nO).length) (some ((⟨0,([]:List UInt8)⟩:aJ),(dZ++nO)))))) (cond (!x2.2) (some ((⟨4,([]:List UInt8)⟩:aJ),aV)) ((dH aV x2.1).bind λ(Bz:aF)=>cond (!(Bz.Value==o.Old)) ((dH aV x2.1).bind λ(kJ:aF)=>some ((⟨6,kJ.Value⟩:aJ),aV)) (gd (dR 32 aV.length) ((dH aV x2.1).bind λ(qj:aF)=>some ((⟨0,([]:List UInt8)⟩:aJ),(aV.set x2.1.toNat (⟨qj.Key,o.Value⟩:aF))))))))))
def nP(o:bZ)(aV:List aF)(r:aJ×List aF):AV×WH:=((.agg (fM r.1)),[(some (.cells [(.acc 2 0 2 r.2.length true)] false false)),none,(some (.cells (aO r.2) false true))])
theorem aaF(d:Nat){o:bZ}{aV:List aF}{r:aJ×List aF}(h:Ao o aV=some r):Spec (aQ aT (d+2)) 114 [(.ptr (some (0,0))),(.agg (iy o))] [(some (.cells [(.acc 1 0 2 aV.length true)] false false)),(some (.cells (aO aV) false true))] (nP o aV r).1 (nP o aV r).2:=by
 unfold Ao at h
 exact bK nB ayX h (.bd λx1 q1=>jw (Om (d+0) q1)<|.br 11 (λ_=>.st none<|Fn Fo [] Tw) λ_=>.bd λx2 q2=>Ye (W9 (d+0) q2)<|.br 22 (λ_=>.br 25 (λ_=>.st none<|Fn Fo [] Tw) λ_=>.bd λx3 q3=>Ia bn 32 1 q3<|Ld bn 34 false 1 1 q3 (.str x3.Value) rfl<|.st none<|Fn Fo [] Tw) λ_=>.br 36 (λ_=>.bd λx4 q4=>.ite (λhb5=>Jn [0,3,4,5,6] [none,none,none,none,none] [] [] (kI (il hb5) (I7 (d+1) q4))<|Fn Fo [] Tw) λhb5=>Jn [0,3,4,5,6] [none,none,none,none,none] [] [] (kI (Ai hb5) (I7 (d+1) q4))<|.bd λx6 q6=>.v 55 (.acc 1 0 2 x6.length false)<|.ob (acu bn q6:wP (.slice 2 (.c (.acc 1 0 2 aV.length true)) none (some (.c (.int .i64 x2.1))) none)=some (.acc 1 0 2 x6.length false))<|.gd λq7=>.ap 56 x6.length (aO x6)<|.ob (by(try rw[nG bn q6]);(try rw[kg bn q6]);simp:0+x6.length=x6.length)<|.ob (by(try rw[nG bn q6]);(try rw[kg bn q6]);first | rfl | simp[aO]:aO []++((aO aV).drop (0)).take (x6.length*2)=aO x6)<|.ob q7<|.gd λq8=>.ap 64 (x6++[(⟨o.Key,o.Value⟩:aF)]).length (aO (x6++[(⟨o.Key,o.Value⟩:aF)]))<|.ob (by(try rw[nG bn q6]);(try rw[kg bn q6]);simp:x6.length+1=(x6++[(⟨o.Key,o.Value⟩:aF)]).length)<|.ob (by(try rw[nG bn q6]);(try rw[kg bn q6]);exact(Row.app bn _ _).symm:aO x6++aO ([(⟨o.Key,o.Value⟩:aF)])=aO (x6++[(⟨o.Key,o.Value⟩:aF)]))<|.ob q8<|.bd λx9 q9=>Jn [0,4,5,6,7] [none,none,none,none,none] [] [.undef,.undef,.undef,.undef,.slice none 2 0 0 true] (Vd (d+1) q9)<|.bd λx10 MG=>.v 75 (.acc 1 (0+x9.toNat*2) 2 x10.length false)<|.ob (by(try rw[nG bn q6]);(try rw[kg bn q6]);exact acs bn MG:wP (.slice 2 (.c (.acc 1 0 2 aV.length true)) (some (.c (.int .i64 x9))) none none)=some (.acc 1 (0+x9.toNat*2) 2 x10.length false))<|.gd λJ5=>.ap 76 ((x6++[(⟨o.Key,o.Value⟩:aF)])++x10).length (aO ((x6++[(⟨o.Key,o.Value⟩:aF)])++x10))<|.ob (by(try rw[nG bn q6]);(try rw[kg bn q6]);(try rw[ME bn MG]);exact abL _ _:(x6++[(⟨o.Key,o.Value⟩:aF)]).length+x10.length=((x6++[(⟨o.Key,o.Value⟩:aF)])++x10).length)<|.ob (by(try rw[nG bn q6]);(try rw[kg bn q6]);(try rw[ME bn MG]);exact(Row.app bn _ _).symm:aO (x6++[(⟨o.Key,o.Value⟩:aF)])++((aO aV).drop (0+x9.toNat*2)).take (x10.length*2)=aO ((x6++[(⟨o.Key,o.Value⟩:aF)])++x10))<|.ob J5<|.st none<|.st none<|.kl [1]<|Fn Fo [] Tw) λ_=>.br 80 (λ_=>.br 83 (λ_=>.st none<|Fn Fo [] Tw) λ_=>.bd λdZ MO=>.v 92 (.acc 1 0 2 dZ.length false)<|.ob (acu bn MO:wP (.slice 2 (.c (.acc 1 0 2 aV.length true)) none (some (.c (.int .i64 x2.1))) none)=some (.acc 1 0 2 dZ.length false))<|.gd λYL=>.ap 93 dZ.length (aO dZ)<|.ob (by(try rw[nG bn MO]);(try rw[kg bn MO]);simp:0+dZ.length=dZ.length)<|.ob (by(try rw[nG bn MO]);(try rw[kg bn MO]);first | rfl | simp[aO]:aO []++((aO aV).drop (0)).take (dZ.length*2)=aO dZ)<|.ob YL<|.bd λnO PZ=>.v 100 (.acc 1 (0+(IntKind.i64.wrap (x2.1+1)).toNat*2) 2 nO.length false)<|.ob (by(try rw[nG bn MO]);(try rw[kg bn MO]);exact acs bn PZ:wP (.slice 2 (.c (.acc 1 0 2 aV.length true)) (some (.c (.int .i64 (IntKind.i64.wrap (x2.1+1))))) none none)=some (.acc 1 (0+(IntKind.i64.wrap (x2.1+1)).toNat*2) 2 nO.length false))<|.gd λMd=>.ap 101 (dZ++nO).length (aO (dZ++nO))<|.ob (by(try rw[nG bn MO]);(try rw[kg bn MO]);(try rw[ME bn PZ]);exact abL _ _:dZ.length+nO.length=(dZ++nO).length)<|.ob (by(try rw[nG bn MO]);(try rw[kg bn MO]);(try rw[ME bn PZ]);exact(Row.app bn _ _).symm:aO dZ++((aO aV).drop (0+(IntKind.i64.wrap (x2.1+1)).toNat*2)).take (nO.length*2)=aO (dZ++nO))<|.ob Md<|.st none<|.st none<|.kl [1]<|Fn Fo [] Tw) λ_=>.br 105 (λ_=>.st none<|Fn Fo [] Tw) λ_=>.bd λBz q16=>Ia bn 115 1 q16<|Ld bn 117 false 1 1 q16 (.str Bz.Value) rfl<|.br 109 (λ_=>.bd λkJ J4=>Ia bn 126 1 J4<|Ld bn 128 false 1 1 J4 (.str kJ.Value) rfl<|.st none<|Fn Fo [] Tw) λ_=>.gd λYM=>Ap0 bn 135 YM<|.bd λqj Uq=>Ia bn 140 5 Uq<|.st (some (aO (aV.set x2.1.toNat (⟨qj.Key,o.Value⟩:aF))))<|.ob (CS (o:=1) bn Uq rfl:Wq (aO aV) (0+x2.1.toNat*2+1) [(.str o.Value)]=some (aO (aV.set x2.1.toNat (⟨qj.Key,o.Value⟩:aF))))<|.st none<|.st none<|.kl [1]<|.zN (.fin (some false) [] (some true)) _ (λr=>@Eq AV (.agg (fM (⟨0,([]:List UInt8)⟩:aJ))) (nP o aV r).1∧@Eq WH [(some (.cells [(.acc 2 0 2 aV.length true)] false false)),none,(some (.cells (aO (aV.set x2.1.toNat (⟨qj.Key,o.Value⟩:aF))) false true))] (nP o aV r).2) (by show _∧_;(try rw[show AV.list 2 aV.length (aO (aV.set x2.1.toNat (⟨qj.Key,o.Value⟩:aF))) false=dA (aV.set x2.1.toNat (⟨qj.Key,o.Value⟩:aF))from by simp only[dA,bB]]);refine⟨?_, ?_⟩<;>first | rfl |(simp only[nP,bB,aD,List.length_replicate,bA,bN,bf,aZ,Nat.add_zero,Nat.zero_add];done) | simp[nP]))
def za(l:List aF)(s7:Int×List aF):List AV×WH:=([(dA l),(.ptr (some (0,0))),(.ptr (some (1,0))),(.int .i64 s7.1)],[(some (.cells [(.acc 2 0 2 0 true)] false false)),(some (.cells [(.acc 3 0 2 s7.2.length true)] false false)),(some (.cells (aO []) false true)),(some (.cells (aO s7.2) false true))])
def C8(l:List aF):(List aF)→Ex×Fast×WH:=λe=>((.exit 0),[(2,(.ptr (some (0,0)))),(3,(.ptr (some (1,0))))],[(some (.cells [(.acc 2 0 2 0 true)] false false)),(some (.cells [(.acc 3 0 2 e.length true)] false false)),(some (.cells (aO []) false true)),(some (.cells (aO e) false true))])
abbrev YN(l:List aF):=eF [0,2,3,4] (za l) (C8 l)
def rY(l:List aF)(s7:Int×List aF):Option ((Int×List aF)⊕((List aF))) :=
 cond (decide (s7.1<(l.length:Int))) ((dH l s7.1).bind λ(x8:aF)=>(dH l s7.1).bind λ(x9:aF)=>(Ao (⟨2,x8.Key,x9.Value,([]:List UInt8)⟩:bZ) s7.2).bind λ(x10:aJ×List aF)=>some (.inl ((IntKind.i64.wrap (s7.1+1)),x10.2))) (some (.inr s7.2))
def Lm(l:List aF)(s7:Int×List aF):Option ((List aF)):=dG (rY l) KK s7
theorem aaG(d:Nat){l:List aF}{s7:Int×List aF}{r:(Int×List aF)⊕((List aF))}(h:rY l s7=some r):dx (bF (aQ aT (d+2)) KK 25 ahg) 0 (jM [0,2,3,4] (za l s7)) (YN l r):=by
 unfold rY at h
 exact bU nB amc h (.br 9 (λ_=>.bd λx8 q8=>Ix bn 14 q8<|.bd λx9 q9=>Ix bn 19 q9<|.bd λx10 MG=>Ye (aaF (d+0) MG)<|E1 [0,2,3,4] [none,none,none,none] [] [.slice none 2 0 0 true,.undef,.undef,.undef]) λ_=>E0 [2,3])
theorem aaH(d:Nat){l:List aF}{s7:Int×List aF}{r:(List aF)}(h:Lm l s7=some r):dx (fQ (bF (aQ aT (d+2)) KK 25 ahg) [0,2,3,4] KK) 0 (jM [0,2,3,4] (za l s7)) (C8 l r) :=
 dS (st:=za l) (fin:=C8 l) (step:=rY l) (λe=>by(intro h;cases h)) (λs x h=>aaG d h) KK s7 r h
def I8(l:List aF):Option (xQ) :=
 (Lm l (0,[])).bind λ(dV:(List aF))=>some (⟨dV⟩:xQ)
def QZ(l:List aF)(r:xQ):AV×WH:=((.agg (ale r)),[])
theorem ahx(d:Nat){l:List aF}{r:xQ}(h:I8 l=some r):Spec (aQ aT (d+3)) 111 [(dA l)] [] (QZ l r).1 (QZ l r).2:=by
 unfold I8 at h
 exact bK nB aA0 h (.z 2 [.slice none 2 0 0 true]<|.z 5 [.agg [.slice none 2 0 0 true]]<|.z 3 [.slice none 2 0 0 true]<|.st none<|.bd λdV J5=>Lp [none,none,none,none] [Tw,Tw,Tw,Tw] [.slice none 2 0 0 true,.undef,.undef,.undef] (aaH (d+0) J5)<|.st none<|Fn Fo [.agg [.slice none 2 0 0 true]] none)
def mY(aV:List aB)(client:Int)(s3:Int):List AV×WH:=([(.ptr (some (0,0))),(.int .i64 client),(.ptr (some (2,0))),(.int .i64 s3)],[(some (.cells [(.acc 1 0 4 aV.length true)] false false)),(some (.cells (aW aV) false true)),(some (.cells (dM (⟨0,0,(⟨0,([]:List UInt8)⟩:aJ)⟩:aB)) false false))])
def rO(aV:List aB)(client:Int):aB⊕Unit→Ex×Fast×WH:=fun
 |.inl e=>(.ret,[(4,(.ptr (some (2,0)))),(5,(.bool true))],[(some (.cells [(.acc 1 0 4 aV.length true)] false false)),(some (.cells (aW aV) false true)),(some (.cells (dM e) false false))])
 |.inr e=>((.exit 0),[(4,(.ptr (some (2,0))))],[(some (.cells [(.acc 1 0 4 aV.length true)] false false)),(some (.cells (aW aV) false true)),(some (.cells (dM (⟨0,0,(⟨0,([]:List UInt8)⟩:aJ)⟩:aB)) false false))])
abbrev Lr(aV:List aB)(client:Int):=eF [0,1,4,6] (mY aV client) (rO aV client)
def kW(aV:List aB)(client:Int)(s3:Int):Option ((Int)⊕(aB⊕Unit)) :=
 cond (decide (s3<(aV.length:Int))) ((dH aV s3).bind λ(x4:aB)=>cond (x4.Client==client) ((dH aV s3).bind λ(x5:aB)=>some (.inr (.inl x5))) (some (.inl (IntKind.i64.wrap (s3+1))))) (some (.inr (.inr ())))
def wE(aV:List aB)(client:Int)(s3:Int):Option (aB⊕Unit):=dG (kW aV client) KK s3
theorem MP(d:Nat){aV:List aB}{client:Int}{s3:Int}{r:(Int)⊕(aB⊕Unit)}(h:kW aV client s3=some r):dx (bF (aQ aT (d+0)) KK 34 WQ) 2 (jM [0,1,4,6] (mY aV client s3)) (Lr aV client r):=by
 unfold kW at h
 exact bU nB acW h (.br 13 (λ_=>.bd λx4 q4=>Ia dQ 21 1 q4<|Ld dQ 23 false 1 0 q4 (.int .i64 x4.Client) rfl<|.br 25 (λ_=>.bd λx5 q5=>Ia dQ 31 1 q5<|Ld dQ 32 true 4 0 q5 (.agg (dM x5)) rfl<|.st none<|E0 [4,5]) λ_=>E0 [0,1,4,6]) λ_=>E0 [4])
theorem Ch(d:Nat){aV:List aB}{client:Int}{s3:Int}{r:aB⊕Unit}(h:wE aV client s3=some r):dx (fQ (bF (aQ aT (d+0)) KK 34 WQ) [0,1,4,6] KK) 2 (jM [0,1,4,6] (mY aV client s3)) (rO aV client r) :=
 dS (st:=mY aV client) (fin:=rO aV client) (step:=kW aV client) (λe=>by rcases e with e | e<;>(intro h;cases h)) (λs x h=>MP d h) KK s3 r h
def ql(client:Int)(aV:List aB):Option (aB×Bool) :=
 (wE aV client 0).bind λ(x6:aB⊕Unit)=>cond (jY x6) (some ((Bu x6),true)) (some ((⟨0,0,(⟨0,([]:List UInt8)⟩:aJ)⟩:aB),false))
def C9(client:Int)(aV:List aB)(r:aB×Bool):AV×WH:=((.tuple [(.agg (dM r.1)),(.bool r.2)]),[(some (.cells [(.acc 1 0 4 aV.length true)] false false)),(some (.cells (aW aV) false true))])
theorem Q0(d:Nat){client:Int}{aV:List aB}{r:aB×Bool}(h:ql client aV=some r):Spec (aQ aT (d+1)) 113 [(.ptr (some (0,0))),(.int .i64 client)] [(some (.cells [(.acc 1 0 4 aV.length true)] false false)),(some (.cells (aW aV) false true))] (C9 client aV r).1 (C9 client aV r).2:=by
 unfold ql at h
 exact bK nB ayW h (.bd λx6 q6=>.ite (λGx=>Lp [none,none,none,none] [] [] (kI (il Gx) (Ch (d+0) q6))<|Fn Fo [] none) λGx=>Lp [none,none,none,none] [] [] (kI (Ai Gx) (Ch (d+0) q6))<|.st none<|Fn Fo [] none)
abbrev Ls(bC:aB)(x1:aB×Bool)(aV:List aB):Fast×WH:=([(0,(.ptr (some (0,0)))),(3,(.ptr (some (2,0)))),(5,(.ptr (some (3,0))))],[(some (.cells [(.acc 1 0 4 aV.length true)] false false)),(some (.cells (aW aV) false true)),(some (.cells (dM bC) false false)),(some (.cells (dM x1.1) false false))])
def J6(bC:aB)(x1:aB×Bool)(aV:List aB):Unit⊕Unit→Ex×Fast×WH:=fun
 |.inl e=>(.ret,[(4,(.bool false))],[(some (.cells [(.acc 1 0 4 aV.length true)] false false)),(some (.cells (aW aV) false true))])
 |.inr e=>(.normal,[(0,(.ptr (some (0,0)))),(3,(.ptr (some (2,0))))],[(some (.cells [(.acc 1 0 4 aV.length true)] false false)),(some (.cells (aW aV) false true)),(some (.cells (dM bC) false false))])
def kr(bC:aB)(x1:aB×Bool)(aV:List aB):Option (Unit⊕Unit) :=
 cond (decide (bC.Client<0)) (some (.inl ())) (cond (decide (bC.Client≥4)) (some (.inl ())) (cond (decide (bC.Seq<1)) (some (.inl ())) (cond (decide (bC.Seq≤x1.1.Seq)) (some (.inl ())) (some (.inr ())))))
theorem Ci(d:Nat){bC:aB}{x1:aB×Bool}{aV:List aB}{r:Unit⊕Unit}(h:kr bC x1 aV=some r):dx (bF (aQ aT (d+0)) KK 96 YJ) 2 (Ls bC x1 aV) (J6 bC x1 aV r):=by
 unfold kr at h
 exact bU nB WR h (.br 20 (λ_=>E0 [4]) λ_=>.br 25 (λ_=>E0 [4]) λ_=>.br 30 (λ_=>E0 [4]) λ_=>.br 36 (λ_=>E0 [4]) λ_=>E0 [0,3])
abbrev Lu(mD:Bool×Int×List aB)(aV:List aB)(bC:aB):Fast×WH:=([(0,(.ptr (some (0,0)))),(3,(.ptr (some (2,0)))),(7,(.acc 3 0 4 mD.2.2.length true)),(8,(.bool mD.1)),(9,(.int .i64 mD.2.1))],[(some (.cells [(.acc 1 0 4 aV.length true)] false false)),(some (.cells (aW aV) false true)),(some (.cells (dM bC) false false)),(some (.cells (aW mD.2.2) false true))])
def J7(mD:Bool×Int×List aB)(aV:List aB)(bC:aB):Bool→Ex×Fast×WH:=λe=>(.normal,[(0,(.ptr (some (0,0)))),(3,(.ptr (some (2,0)))),(7,(.acc 3 0 4 mD.2.2.length true)),(8,(.bool mD.1)),(9,(.int .i64 mD.2.1)),(60,(.bool e))],[(some (.cells [(.acc 1 0 4 aV.length true)] false false)),(some (.cells (aW aV) false true)),(some (.cells (dM bC) false false)),(some (.cells (aW mD.2.2) false true))])
def qN(mD:Bool×Int×List aB)(aV:List aB)(bC:aB):Option (Bool) :=
 cond (!mD.1) ((dH aV mD.2.1).bind λ(qj:aB)=>some (decide (qj.Client≥bC.Client))) (some false)
theorem MQ(d:Nat){mD:Bool×Int×List aB}{aV:List aB}{bC:aB}{r:Bool}(h:qN mD aV bC=some r):dx (bF (aQ aT (d+0)) KK 96 xX) 2 (Lu mD aV bC) (J7 mD aV bC r):=by
 unfold qN at h
 exact bU nB Ce h (.br 48 (λ_=>.bd λqj Uq=>Ia dQ 54 1 Uq<|Ld dQ 56 false 1 0 Uq (.int .i64 qj.Client) rfl<|E1 [0,3,7,8,9,60] [none,none,none,none,none,none] [] [.undef,.undef,.slice none 4 0 0 true,.undef,.undef,.undef]) λ_=>E1 [0,3,7,8,9,60] [none,none,none,none,none,none] [] [.undef,.undef,.slice none 4 0 0 true,.undef,.undef,.undef])
abbrev Lv(mD:Bool×Int×List aB)(aV:List aB)(bC:aB):Fast×WH:=([(0,(.ptr (some (0,0)))),(3,(.ptr (some (2,0)))),(7,(.acc 3 0 4 mD.2.2.length true)),(8,(.bool mD.1)),(9,(.int .i64 mD.2.1))],[(some (.cells [(.acc 1 0 4 aV.length true)] false false)),(some (.cells (aW aV) false true)),(some (.cells (dM bC) false false)),(some (.cells (aW mD.2.2) false true))])
def J8(mD:Bool×Int×List aB)(aV:List aB)(bC:aB):(Bool×List aB)→Ex×Fast×WH:=λe=>(.normal,[(0,(.ptr (some (0,0)))),(3,(.ptr (some (2,0)))),(7,(.acc 3 0 4 e.2.length true)),(8,(.bool e.1)),(9,(.int .i64 mD.2.1))],[(some (.cells [(.acc 1 0 4 aV.length true)] false false)),(some (.cells (aW aV) false true)),(some (.cells (dM bC) false false)),(some (.cells (aW e.2) false true))])
def qO(mD:Bool×Int×List aB)(aV:List aB)(bC:aB):Option ((Bool×List aB)) :=
 (qN mD aV bC).bind λ(x20:Bool)=>cond x20 (gd (dR 40 (mD.2.2++[bC]).length) (some (true,(mD.2.2++[bC])))) (some (mD.1,mD.2.2))
theorem MR(d:Nat){mD:Bool×Int×List aB}{aV:List aB}{bC:aB}{r:(Bool×List aB)}(h:qO mD aV bC=some r):dx (bF (aQ aT (d+0)) KK 96 zW) 2 (Lv mD aV bC) (J8 mD aV bC r):=by
 unfold qO at h
 exact bU nB CX h (.bd λx20 q20=>Jn [0,3,7,8,9] [none,none,none,none,none] [] [.undef,.undef,.slice none 4 0 0 true,.undef,.undef] (MQ (d+0) q20)<|.br 60 (λ_=>.gd λq21=>Ap dQ 64 q21<|E1 [0,3,7,8,9] [none,none,none,none,none] [] [.undef,.undef,.slice none 4 0 0 true,.undef,.undef]) λ_=>E1 [0,3,7,8,9] [none,none,none,none,none] [] [.undef,.undef,.slice none 4 0 0 true,.undef,.undef])
def mZ(aV:List aB)(bC:aB)(mD:Bool×Int×List aB):List AV×WH:=([(.ptr (some (0,0))),(.ptr (some (2,0))),(.acc 3 0 4 mD.2.2.length true),(.bool mD.1),(.int .i64 mD.2.1)],[(some (.cells [(.acc 1 0 4 aV.length true)] false false)),(some (.cells (aW aV) false true)),(some (.cells (dM bC) false false)),(some (.cells (aW mD.2.2) false true))])
def rP(aV:List aB)(bC:aB):(Bool×List aB)→Ex×Fast×WH:=λe=>((.exit 0),[(0,(.ptr (some (0,0)))),(3,(.ptr (some (2,0)))),(7,(.acc 3 0 4 e.2.length true)),(8,(.bool e.1))],[(some (.cells [(.acc 1 0 4 aV.length true)] false false)),(some (.cells (aW aV) false true)),(some (.cells (dM bC) false false)),(some (.cells (aW e.2) false true))])
abbrev LA(aV:List aB)(bC:aB):=eF [0,3,7,8,9] (mZ aV bC) (rP aV bC)
def jC(aV:List aB)(bC:aB)(mD:Bool×Int×List aB):Option ((Bool×Int×List aB)⊕((Bool×List aB))) :=
 cond (decide (mD.2.1<(aV.length:Int))) ((qO mD aV bC).bind λ(I9:(Bool×List aB))=>(dH aV mD.2.1).bind λ(x23:aB)=>cond (x23.Client != bC.Client) ((dH aV mD.2.1).bind λ(x24:aB)=>gd (dR 40 (I9.2++[x24]).length) (some (.inl (I9.1,(IntKind.i64.wrap (mD.2.1+1)),(I9.2++[x24]))))) (some (.inl (I9.1,(IntKind.i64.wrap (mD.2.1+1)),I9.2)))) (some (.inr (mD.1,mD.2.2)))
def mE(aV:List aB)(bC:aB)(mD:Bool×Int×List aB):Option ((Bool×List aB)):=dG (jC aV bC) KK mD
theorem MS(d:Nat){aV:List aB}{bC:aB}{mD:Bool×Int×List aB}{r:(Bool×Int×List aB)⊕((Bool×List aB))}(h:jC aV bC mD=some r):dx (bF (aQ aT (d+0)) KK 96 WS) 2 (jM [0,3,7,8,9] (mZ aV bC mD)) (LA aV bC r):=by
 unfold jC at h
 exact bU nB acY h (.br 43 (λ_=>.sk<|.bd λI9 q22=>Jn [0,3,7,8,9] [none,none,none,none,none] [] [.undef,.undef,.slice none 4 0 0 true,.undef,.undef] (MR (d+0) q22)<|.bd λx23 q23=>Ia dQ 70 1 q23<|Ld dQ 72 false 1 0 q23 (.int .i64 x23.Client) rfl<|.br 75 (λ_=>.bd λx24 q24=>Ia dQ 82 1 q24<|Ld dQ 83 true 4 0 q24 (.agg (dM x24)) rfl<|.gd λq25=>Ap dQ 85 q25<|E1 [0,3,7,8,9] [none,none,none,none,none] [] [.undef,.undef,.slice none 4 0 0 true,.undef,.undef]) λ_=>E1 [0,3,7,8,9] [none,none,none,none,none] [] [.undef,.undef,.slice none 4 0 0 true,.undef,.undef]) λ_=>E1 [0,3,7,8] [none,none,none,none] [] [.undef,.undef,.slice none 4 0 0 true,.undef])
theorem MU(d:Nat){aV:List aB}{bC:aB}{mD:Bool×Int×List aB}{r:(Bool×List aB)}(h:mE aV bC mD=some r):dx (fQ (bF (aQ aT (d+0)) KK 96 WS) [0,3,7,8,9] KK) 2 (jM [0,3,7,8,9] (mZ aV bC mD)) (rP aV bC r) :=
 dS (st:=mZ aV bC) (fin:=rP aV bC) (step:=jC aV bC) (λe=>by(intro h;cases h)) (λs x h=>MS d h) KK mD r h
abbrev LB(jL:(Bool×List aB))(bC:aB)(aV:List aB):Fast×WH:=([(0,(.ptr (some (0,0)))),(3,(.ptr (some (2,0)))),(7,(.acc 3 0 4 jL.2.length true)),(8,(.bool jL.1))],[(some (.cells [(.acc 1 0 4 aV.length true)] false false)),(some (.cells (aW aV) false true)),(some (.cells (dM bC) false false)),(some (.cells (aW jL.2) false true))])
def J9(jL:(Bool×List aB))(bC:aB)(aV:List aB):(List aB)→Ex×Fast×WH:=λe=>(.normal,[(0,(.ptr (some (0,0)))),(7,(.acc 2 0 4 e.length true))],[(some (.cells [(.acc 1 0 4 aV.length true)] false false)),(some (.cells (aW aV) false true)),(some (.cells (aW e) false true))])
def ku(jL:(Bool×List aB))(bC:aB)(aV:List aB):Option ((List aB)) :=
 cond (!jL.1) (gd (dR 40 (jL.2++[bC]).length) (some (jL.2++[bC]))) (some jL.2)
theorem MV(d:Nat){jL:(Bool×List aB)}{bC:aB}{aV:List aB}{r:(List aB)}(h:ku jL bC aV=some r):dx (bF (aQ aT (d+0)) KK 96 Lj) 2 (LB jL bC aV) (J9 jL bC aV r):=by
 unfold ku at h
 exact bU nB MK h (.br 87 (λ_=>.gd λq27=>Ap dQ 91 q27<|E1 [0,7] [none,none] [] [.undef,.slice none 4 0 0 true]) λ_=>E1 [0,7] [none,none] [] [.undef,.slice none 4 0 0 true])
def kQ(bC:aB)(aV:List aB):Option (Bool×List aB) :=
 (ql bC.Client aV).bind λ(x1:aB×Bool)=>(kr bC x1 aV).bind λ(x2:Unit⊕Unit)=>cond (jY x2) (some (false,aV)) ((mE aV bC (false,0,[])).bind λ(jL:(Bool×List aB))=>(ku jL bC aV).bind λ(x28:(List aB))=>some (true,x28))
def C_(bC:aB)(aV:List aB)(r:Bool×List aB):AV×WH:=((.bool r.1),[(some (.cells [(.acc 2 0 4 r.2.length true)] false false)),none,(some (.cells (aW r.2) false true))])
theorem Q5(d:Nat){bC:aB}{aV:List aB}{r:Bool×List aB}(h:kQ bC aV=some r):Spec (aQ aT (d+2)) 115 [(.ptr (some (0,0))),(.agg (dM bC))] [(some (.cells [(.acc 1 0 4 aV.length true)] false false)),(some (.cells (aW aV) false true))] (C_ bC aV r).1 (C_ bC aV r).2:=by
 unfold kQ at h
 exact bK nB ayY h (.bd λx1 q1=>Ye (Q0 (d+0) q1)<|.st none<|.bd λx2 q2=>.ite (λhb3=>Jn [0,3,5] [none,none,none] [] [] (kI (il hb3) (Ci (d+1) q2))<|Fn Fo [] Tw) λhb3=>Jn [0,3,5] [none,none,none] [] [] (kI (Ai hb3) (Ci (d+1) q2))<|.z 7 [.slice none 4 0 0 true]<|.bd λjL q26=>Lp [none,none,Tw,none,none] [] [.undef,.undef,.slice none 4 0 0 true,.undef,.undef] (MU (d+1) q26)<|.bd λx28 q28=>Jn [0,3,7,8] [none,none,none,none] [] [.undef,.undef,.slice none 4 0 0 true,.undef] (MV (d+1) q28)<|.st none<|.kl [1]<|Fn Fo [] Tw)
def tQ(l:List aB)(s5:Int×List aB):List AV×WH:=([(dY l),(.ptr (some (0,0))),(.ptr (some (1,0))),(.int .i64 s5.1)],[(some (.cells [(.acc 2 0 4 0 true)] false false)),(some (.cells [(.acc 3 0 4 s5.2.length true)] false false)),(some (.cells (aW []) false true)),(some (.cells (aW s5.2) false true))])
def xY(l:List aB):(List aB)→Ex×Fast×WH:=λe=>((.exit 0),[(2,(.ptr (some (0,0)))),(3,(.ptr (some (1,0))))],[(some (.cells [(.acc 2 0 4 0 true)] false false)),(some (.cells [(.acc 3 0 4 e.length true)] false false)),(some (.cells (aW []) false true)),(some (.cells (aW e) false true))])
abbrev Tt(l:List aB):=eF [0,2,3,4] (tQ l) (xY l)
def mG(l:List aB)(s5:Int×List aB):Option ((Int×List aB)⊕((List aB))) :=
 cond (decide (s5.1<(l.length:Int))) ((dH l s5.1).bind λ(x6:aB)=>(kQ x6 s5.2).bind λ(x7:Bool×List aB)=>some (.inl ((IntKind.i64.wrap (s5.1+1)),x7.2))) (some (.inr s5.2))
def ED(l:List aB)(s5:Int×List aB):Option ((List aB)):=dG (mG l) KK s5
theorem Ve(d:Nat){l:List aB}{s5:Int×List aB}{r:(Int×List aB)⊕((List aB))}(h:mG l s5=some r):dx (bF (aQ aT (d+2)) KK 18 ahh) 0 (jM [0,2,3,4] (tQ l s5)) (Tt l r):=by
 unfold mG at h
 exact bU nB amd h (.br 9 (λ_=>.bd λx6 q6=>Ix dQ 14 q6<|.bd λx7 q7=>Ye (Q5 (d+0) q7)<|E1 [0,2,3,4] [none,none,none,none] [] [.slice none 4 0 0 true,.undef,.undef,.undef]) λ_=>E0 [2,3])
theorem Vf(d:Nat){l:List aB}{s5:Int×List aB}{r:(List aB)}(h:ED l s5=some r):dx (fQ (bF (aQ aT (d+2)) KK 18 ahh) [0,2,3,4] KK) 0 (jM [0,2,3,4] (tQ l s5)) (xY l r) :=
 dS (st:=tQ l) (fin:=xY l) (step:=mG l) (λe=>by(intro h;cases h)) (λs x h=>Ve d h) KK s5 r h
def Aq(l:List aB):Option (sG) :=
 (ED l (0,[])).bind λ(x8:(List aB))=>some (⟨x8⟩:sG)
def KJ(l:List aB)(r:sG):AV×WH:=((.agg (aem r)),[])
theorem aaI(d:Nat){l:List aB}{r:sG}(h:Aq l=some r):Spec (aQ aT (d+3)) 112 [(dY l)] [] (KJ l r).1 (KJ l r).2:=by
 unfold Aq at h
 exact bK nB aA1 h (.z 2 [.slice none 4 0 0 true]<|.z 5 [.agg [.slice none 4 0 0 true]]<|.z 3 [.slice none 4 0 0 true]<|.st none<|.bd λx8 q8=>Lp [none,none,none,none] [Tw,Tw,Tw,Tw] [.slice none 4 0 0 true,.undef,.undef,.undef] (Vf (d+0) q8)<|.st none<|Fn Fo [.agg [.slice none 4 0 0 true]] none)
def oL(bC:aM):Option (bE) :=
 (I8 bC.Pairs).bind λ(x1:xQ)=>(Aq bC.fu).bind λ(x2:sG)=>some (⟨x1,x2,bC.fJ,bC.Epoch⟩:bE)
def MW(bC:aM)(r:bE):AV×WH:=((.ptr (some (0,0))),[(some (.cells (dN r) false false))])
theorem I_(d:Nat){bC:aM}{r:bE}(h:oL bC=some r):Spec (aQ aT (d+4)) 81 [(.agg (dB bC))] [] (MW bC r).1 (MW bC r).2:=by
 unfold oL at h
 exact bK nB aDc h (.bd λx1 q1=>Cl [] Fo [.slice none 2 0 0 true] (ahx (d+0) q1)<|.er<|.ob (rfl:@Eq (Option AV) (some (dY bC.fu)) (some (dY bC.fu)))<|.bd λx2 q2=>Cl [] Fo [.slice none 4 0 0 true] (aaI (d+0) q2)<|Fn Fo [] none)
def m_(fE:bE)(client:Int)(s3:Int):List AV×WH:=([(.ptr (some (0,1))),(.int .i64 client),(.ptr (some (1,0))),(.int .i64 s3)],[(some (.cells (dN fE) false false)),(some (.cells (dM (⟨0,0,(⟨0,([]:List UInt8)⟩:aJ)⟩:aB)) false false))])
def rQ(fE:bE)(client:Int):aB⊕Unit→Ex×Fast×WH:=fun
 |.inl e=>(.ret,[(4,(.ptr (some (1,0)))),(5,(.bool true))],[(some (.cells (dN fE) false false)),(some (.cells (dM e) false false))])
 |.inr e=>((.exit 0),[(4,(.ptr (some (1,0))))],[(some (.cells (dN fE) false false)),(some (.cells (dM (⟨0,0,(⟨0,([]:List UInt8)⟩:aJ)⟩:aB)) false false))])
abbrev LC(fE:bE)(client:Int):=eF [0,1,4,6] (m_ fE client) (rQ fE client)
def kX(fE:bE)(client:Int)(s3:Int):Option ((Int)⊕(aB⊕Unit)) :=
 cond (decide (s3<(fE.S_.L.length:Int))) ((dH fE.S_.L s3).bind λ(x4:aB)=>cond (x4.Client==client) ((dH fE.S_.L s3).bind λ(x5:aB)=>some (.inr (.inl x5))) (some (.inl (IntKind.i64.wrap (s3+1))))) (some (.inr (.inr ())))
def wF(fE:bE)(client:Int)(s3:Int):Option (aB⊕Unit):=dG (kX fE client) KK s3
theorem MX(d:Nat){fE:bE}{client:Int}{s3:Int}{r:(Int)⊕(aB⊕Unit)}(h:kX fE client s3=some r):dx (bF (aQ aT (d+0)) KK 34 WQ) 1 (jM [0,1,4,6] (m_ fE client s3)) (LC fE client r):=by
 unfold kX at h
 exact bU nB acW h (.br 13 (λ_=>.bd λx4 q4=>Ix dQ 21 q4<|.br 25 (λ_=>.bd λx5 q5=>Ix dQ 31 q5<|.st none<|E0 [4,5]) λ_=>E0 [0,1,4,6]) λ_=>E0 [4])
theorem Cj(d:Nat){fE:bE}{client:Int}{s3:Int}{r:aB⊕Unit}(h:wF fE client s3=some r):dx (fQ (bF (aQ aT (d+0)) KK 34 WQ) [0,1,4,6] KK) 1 (jM [0,1,4,6] (m_ fE client s3)) (rQ fE client r) :=
 dS (st:=m_ fE client) (fin:=rQ fE client) (step:=kX fE client) (λe=>by rcases e with e | e<;>(intro h;cases h)) (λs x h=>MX d h) KK s3 r h
def mH(client:Int)(fE:bE):Option (aB×Bool) :=
 (wF fE client 0).bind λ(x6:aB⊕Unit)=>cond (jY x6) (some ((Bu x6),true)) (some ((⟨0,0,(⟨0,([]:List UInt8)⟩:aJ)⟩:aB),false))
def Da(client:Int)(fE:bE)(r:aB×Bool):AV×WH:=((.tuple [(.agg (dM r.1)),(.bool r.2)]),[(some (.cells (dN fE) false false))])
theorem FP(d:Nat){client:Int}{fE:bE}{r:aB×Bool}(h:mH client fE=some r):Spec (aQ aT (d+1)) 113 [(.ptr (some (0,1))),(.int .i64 client)] [(some (.cells (dN fE) false false))] (Da client fE r).1 (Da client fE r).2:=by
 unfold mH at h
 exact bK nB ayW h (.bd λx6 q6=>.ite (λGx=>Lp [none,none,none,none] [] [] (kI (il Gx) (Cj (d+0) q6))<|Fn Fo [] none) λGx=>Lp [none,none,none,none] [] [] (kI (Ai Gx) (Cj (d+0) q6))<|.st none<|Fn Fo [] none)
def qP(t:bE)(key:List UInt8)(s3:Int):List AV×WH:=([(.ptr (some (0,0))),(.str key),(.int .i64 s3)],[(some (.cells (dN t) false false))])
def vg(t:bE)(key:List UInt8):(Int×Bool)⊕Unit→Ex×Fast×WH:=fun
 |.inl e=>(.ret,[(4,(.int .i64 e.1)),(5,(.bool e.2))],[(some (.cells (dN t) false false))])
 |.inr e=>((.exit 0),[(0,(.ptr (some (0,0))))],[(some (.cells (dN t) false false))])
abbrev P6(t:bE)(key:List UInt8):=eF [0,1,6] (qP t key) (vg t key)
def sH(t:bE)(key:List UInt8)(s3:Int):Option ((Int)⊕((Int×Bool)⊕Unit)) :=
 cond (decide (s3<(t.T.L.length:Int))) ((dH t.T.L s3).bind λ(x4:aF)=>cond (!(Op.bytesLess x4.Key key)) ((dH t.T.L s3).bind λ(x5:aF)=>some (.inr (.inl (s3,(x5.Key==key))))) (some (.inl (IntKind.i64.wrap (s3+1))))) (some (.inr (.inr ())))
def Ja(t:bE)(key:List UInt8)(s3:Int):Option ((Int×Bool)⊕Unit):=dG (sH t key) KK s3
theorem Q6(d:Nat){t:bE}{key:List UInt8}{s3:Int}{r:(Int)⊕((Int×Bool)⊕Unit)}(h:sH t key s3=some r):dx (bF (aQ aT (d+0)) KK 42 WT) 1 (jM [0,1,6] (qP t key s3)) (P6 t key r):=by
 unfold sH at h
 exact bU nB ac0 h (.br 13 (λ_=>.bd λx4 q4=>Ix bn 21 q4<|.br 25 (λ_=>.bd λx5 q5=>Ix bn 32 q5<|E0 [4,5]) λ_=>E0 [0,1,6]) λ_=>E0 [0])
theorem FQ(d:Nat){t:bE}{key:List UInt8}{s3:Int}{r:(Int×Bool)⊕Unit}(h:Ja t key s3=some r):dx (fQ (bF (aQ aT (d+0)) KK 42 WT) [0,1,6] KK) 1 (jM [0,1,6] (qP t key s3)) (vg t key r) :=
 dS (st:=qP t key) (fin:=vg t key) (step:=sH t key) (λe=>by rcases e with e | e<;>(intro h;cases h)) (λs x h=>Q6 d h) KK s3 r h
def A9(key:List UInt8)(t:bE):Option (Int×Bool) :=
 (Ja t key 0).bind λ(x6:(Int×Bool)⊕Unit)=>cond (jY x6) (some ((Bu x6).1,(Bu x6).2)) (some ((t.T.L.length:Int),false))
def G9(key:List UInt8)(t:bE)(r:Int×Bool):AV×WH:=((.tuple [(.int .i64 r.1),(.bool r.2)]),[(some (.cells (dN t) false false))])
theorem W_(d:Nat){key:List UInt8}{t:bE}{r:Int×Bool}(h:A9 key t=some r):Spec (aQ aT (d+1)) 134 [(.ptr (some (0,0))),(.str key)] [(some (.cells (dN t) false false))] (G9 key t r).1 (G9 key t r).2:=by
 unfold A9 at h
 exact bK nB ayZ h (.bd λx6 q6=>.ite (λGx=>Lp [none,none,none] [] [] (kI (il Gx) (FQ (d+0) q6))<|Fn Fo [] none) λGx=>Lp [none,none,none] [] [] (kI (Ai Gx) (FQ (d+0) q6))<|Fn Fo [] none)
abbrev Tv(x2:Int×Bool)(t:bE)(o:bZ):Fast×WH:=([(0,(.ptr (some (0,0)))),(3,(.ptr (some (1,0)))),(4,(.ptr (some (2,0)))),(5,(.int .i64 x2.1)),(6,(.bool x2.2))],[(some (.cells (dN t) false false)),(some (.cells (iy o) false false)),(some (.cells (fM (⟨0,([]:List UInt8)⟩:aJ)) false false))])
def Q7(x2:Int×Bool)(t:bE)(o:bZ):Unit⊕Unit→Ex×Fast×WH:=fun
 |.inl e=>(.ret,[(4,(.ptr (some (1,0))))],[(some (.cells (dN t) false false)),(some (.cells (fM (⟨5,([]:List UInt8)⟩:aJ)) false false))])
 |.inr e=>(.normal,[(0,(.ptr (some (0,0)))),(3,(.ptr (some (1,0)))),(4,(.ptr (some (2,0)))),(5,(.int .i64 x2.1)),(6,(.bool x2.2))],[(some (.cells (dN t) false false)),(some (.cells (iy o) false false)),(some (.cells (fM (⟨0,([]:List UInt8)⟩:aJ)) false false))])
def ze(x2:Int×Bool)(t:bE)(o:bZ):Option (Unit⊕Unit) :=
 cond (!x2.2) (cond (decide ((t.T.L.length:Int)≥8)) (some (.inl ())) (some (.inr ()))) (some (.inr ()))
theorem Jb(d:Nat){x2:Int×Bool}{t:bE}{o:bZ}{r:Unit⊕Unit}(h:ze x2 t o=some r):dx (bF (aQ aT (d+0)) KK 147 CW) 1 (Tv x2 t o) (Q7 x2 t o r):=by
 unfold ze at h
 exact bU nB FL h (.br 40 (λ_=>.br 47 (λ_=>.st none<|E0 [4]) λ_=>E0 [0,3,4,5,6]) λ_=>E0 [0,3,4,5,6])
abbrev Tx(x2:Int×Bool)(x6:List aF)(o:bZ)(t:bE):Fast×WH:=([(0,(.ptr (some (0,0)))),(4,(.ptr (some (1,0)))),(5,(.int .i64 x2.1)),(6,(.bool x2.2)),(7,(.acc 2 0 2 (x6++[(⟨o.Key,o.Value⟩:aF)]).length true))],[(some (.cells (dN t) false false)),(some (.cells (fM (⟨0,([]:List UInt8)⟩:aJ)) false false)),(some (.cells (aO (x6++[(⟨o.Key,o.Value⟩:aF)])) false true))])
def Q8(x2:Int×Bool)(x6:List aF)(o:bZ)(t:bE):Int→Ex×Fast×WH:=λe=>(.normal,[(0,(.ptr (some (0,0)))),(4,(.ptr (some (1,0)))),(5,(.int .i64 e)),(7,(.acc 2 0 2 (x6++[(⟨o.Key,o.Value⟩:aF)]).length true))],[(some (.cells (dN t) false false)),(some (.cells (fM (⟨0,([]:List UInt8)⟩:aJ)) false false)),(some (.cells (aO (x6++[(⟨o.Key,o.Value⟩:aF)])) false true))])
def zf(x2:Int×Bool)(x6:List aF)(o:bZ)(t:bE):Option (Int) :=
 cond x2.2 (some (IntKind.i64.wrap (x2.1+1))) (some x2.1)
theorem Vg(d:Nat){x2:Int×Bool}{x6:List aF}{o:bZ}{t:bE}{r:Int}(h:zf x2 x6 o t=some r):dx (bF (aQ aT (d+0)) KK 147 xW) 1 (Tx x2 x6 o t) (Q8 x2 x6 o t r):=by
 unfold zf at h
 exact bU nB Cc h (.br 65 (λ_=>E1 [0,4,5,7] [none,none,none,none] [] [.undef,.undef,.undef,.slice none 2 0 0 true]) λ_=>E1 [0,4,5,7] [none,none,none,none] [] [.undef,.undef,.undef,.slice none 2 0 0 true])
def Ar(o:bZ)(t:bE):Option (aJ×bE) :=
 (Bv o).bind λ(x1:Bool)=>cond (!x1) (some ((⟨1,([]:List UInt8)⟩:aJ),t)) ((A9 o.Key t).bind λ(x2:Int×Bool)=>cond (o.Kind==1) (cond (!x2.2) (some ((⟨4,([]:List UInt8)⟩:aJ),t)) ((dH t.T.L x2.1).bind λ(x3:aF)=>some ((⟨0,x3.Value⟩:aJ),t))) (cond (o.Kind==2) ((ze x2 t o).bind λ(x4:Unit⊕Unit)=>cond (jY x4) (some ((⟨5,([]:List UInt8)⟩:aJ),t)) ((OX t.T.L 0 x2.1).bind λ(x6:List aF)=>gd (dR 32 x6.length) (gd (dR 32 (x6++[(⟨o.Key,o.Value⟩:aF)]).length) ((zf x2 x6 o t).bind λ(x9:Int)=>(OX t.T.L x9 t.T.L.length).bind λ(x10:List aF)=>gd (dR 32 ((x6++[(⟨o.Key,o.Value⟩:aF)])++x10).length) (some ((⟨0,([]:List UInt8)⟩:aJ),(⟨(⟨((x6++[(⟨o.Key,o.Value⟩:aF)])++x10)⟩:xQ),t.S_,t.ID,t.Epoch⟩:bE))))))) (cond (o.Kind==3) (cond (!x2.2) (some ((⟨4,([]:List UInt8)⟩:aJ),t)) ((OX t.T.L 0 x2.1).bind λ(dZ:List aF)=>gd (dR 32 dZ.length) ((OX t.T.L (IntKind.i64.wrap (x2.1+1)) t.T.L.length).bind λ(nO:List aF)=>gd (dR 32 (dZ++nO).length) (some ((⟨0,([]:List UInt8)⟩:aJ),(⟨(⟨(dZ++nO)⟩:xQ),t.S_,t.ID,t.Epoch⟩:bE)))))) (cond (!x2.2) (some ((⟨4,([]:List UInt8)⟩:aJ),t)) ((dH t.T.L x2.1).bind λ(Bz:aF)=>cond (!(Bz.Value==o.Old)) ((dH t.T.L x2.1).bind λ(kJ:aF)=>some ((⟨6,kJ.Value⟩:aJ),t)) (gd (dR 32 t.T.L.length) ((dH t.T.L x2.1).bind λ(qj:aF)=>some ((⟨0,([]:List UInt8)⟩:aJ),(⟨(⟨(t.T.L.set x2.1.toNat (⟨qj.Key,o.Value⟩:aF))⟩:xQ),t.S_,t.ID,t.Epoch⟩:bE)))))))))
def nQ(o:bZ)(t:bE)(r:aJ×bE):AV×WH:=((.agg (fM r.1)),[(some (.cells (dN r.2) false false))])
theorem aaJ(d:Nat){o:bZ}{t:bE}{r:aJ×bE}(h:Ar o t=some r):Spec (aQ aT (d+2)) 114 [(.ptr (some (0,0))),(.agg (iy o))] [(some (.cells (dN t) false false))] (nQ o t r).1 (nQ o t r).2:=by
 unfold Ar at h
 exact bK nB ayX h (.bd λx1 q1=>jw (Om (d+0) q1)<|.br 11 (λ_=>.st none<|Fn Fo [] Fo) λ_=>.bd λx2 q2=>Cl [] Fo [] (W_ (d+0) q2)<|.br 22 (λ_=>.br 25 (λ_=>.st none<|Fn Fo [] Fo) λ_=>.bd λx3 q3=>Ix bn 32 q3<|.st none<|Fn Fo [] Fo) λ_=>.br 36 (λ_=>.bd λx4 q4=>.ite (λhb5=>Jn [0,3,4,5,6] [none,none,none,none,none] [] [] (kI (il hb5) (Jb (d+1) q4))<|Fn Fo [] Fo) λhb5=>Jn [0,3,4,5,6] [none,none,none,none,none] [] [] (kI (Ai hb5) (Jb (d+1) q4))<|.bd λx6 q6=>Si bn 55 q6<|.gd λq7=>Ap0 bn 56 q7<|.gd λq8=>Ap bn 64 q8<|.bd λx9 q9=>Jn [0,4,5,6,7] [none,none,none,none,none] [] [.undef,.undef,.undef,.undef,.slice none 2 0 0 true] (Vg (d+1) q9)<|.bd λx10 MG=>Sl bn 75 MG<|.gd λJ5=>Ap bn 76 J5<|.st none<|.st none<|Fn Fo [] Fo) λ_=>.br 80 (λ_=>.br 83 (λ_=>.st none<|Fn Fo [] Fo) λ_=>.bd λdZ MO=>Si bn 92 MO<|.gd λYL=>Ap0 bn 93 YL<|.er<|.ob (rfl:@Eq (Option AV) (some (dA t.T.L)) (some (dA t.T.L)))<|.bd λnO PZ=>Sl bn 100 PZ<|.gd λMd=>Ap bn 101 Md<|.st none<|.st none<|Fn Fo [] Fo) λ_=>.br 105 (λ_=>.st none<|Fn Fo [] Fo) λ_=>.bd λBz q16=>Ix bn 115 q16<|.br 109 (λ_=>.bd λkJ J4=>Ix bn 126 J4<|.st none<|Fn Fo [] Fo) λ_=>.gd λYM=>Ap0 bn 135 YM<|.bd λqj Uq=>Ia bn 140 4 Uq<|.st (some (aO (t.T.L.set x2.1.toNat (⟨qj.Key,o.Value⟩:aF))))<|.ob (CS (o:=1) bn Uq rfl:Wq (aO t.T.L) (0+x2.1.toNat*2+1) [(.str o.Value)]=some (aO (t.T.L.set x2.1.toNat (⟨qj.Key,o.Value⟩:aF))))<|.st none<|.st none<|.zN (.fin (some false) [] (some false)) _ (λr=>@Eq AV (.agg (fM (⟨0,([]:List UInt8)⟩:aJ))) (nQ o t r).1∧@Eq WH [(some (.cells [(.list 2 t.T.L.length (aO (t.T.L.set x2.1.toNat (⟨qj.Key,o.Value⟩:aF))) false),(dY t.S_.L),(.int .i64 t.ID),(.int .i64 t.Epoch)] false false))] (nQ o t r).2) (by show _∧_;(try rw[show AV.list 2 t.T.L.length (aO (t.T.L.set x2.1.toNat (⟨qj.Key,o.Value⟩:aF))) false=dA (t.T.L.set x2.1.toNat (⟨qj.Key,o.Value⟩:aF))from by simp only[dA,bB]]);refine⟨?_, ?_⟩<;>first | rfl |(simp only[nQ,bB,aD,List.length_replicate,bA,bN,bf,aZ,Nat.add_zero,Nat.zero_add];done) | simp[nQ]))
abbrev LD(bC:aB)(x1:aB×Bool)(fE:bE):Fast×WH:=([(0,(.ptr (some (0,1)))),(3,(.ptr (some (1,0)))),(5,(.ptr (some (2,0))))],[(some (.cells (dN fE) false false)),(some (.cells (dM bC) false false)),(some (.cells (dM x1.1) false false))])
def J_(bC:aB)(x1:aB×Bool)(fE:bE):Unit⊕Unit→Ex×Fast×WH:=fun
 |.inl e=>(.ret,[(4,(.bool false))],[(some (.cells (dN fE) false false))])
 |.inr e=>(.normal,[(0,(.ptr (some (0,1)))),(3,(.ptr (some (1,0))))],[(some (.cells (dN fE) false false)),(some (.cells (dM bC) false false))])
def qQ(bC:aB)(x1:aB×Bool)(fE:bE):Option (Unit⊕Unit) :=
 cond (decide (bC.Client<0)) (some (.inl ())) (cond (decide (bC.Client≥4)) (some (.inl ())) (cond (decide (bC.Seq<1)) (some (.inl ())) (cond (decide (bC.Seq≤x1.1.Seq)) (some (.inl ())) (some (.inr ())))))
theorem Ck(d:Nat){bC:aB}{x1:aB×Bool}{fE:bE}{r:Unit⊕Unit}(h:qQ bC x1 fE=some r):dx (bF (aQ aT (d+0)) KK 96 YJ) 1 (LD bC x1 fE) (J_ bC x1 fE r):=by
 unfold qQ at h
 exact bU nB WR h (.br 20 (λ_=>E0 [4]) λ_=>.br 25 (λ_=>E0 [4]) λ_=>.br 30 (λ_=>E0 [4]) λ_=>.br 36 (λ_=>E0 [4]) λ_=>E0 [0,3])
abbrev LG(mD:Bool×Int×List aB)(fE:bE)(bC:aB):Fast×WH:=([(0,(.ptr (some (0,1)))),(3,(.ptr (some (1,0)))),(7,(.acc 2 0 4 mD.2.2.length true)),(8,(.bool mD.1)),(9,(.int .i64 mD.2.1))],[(some (.cells (dN fE) false false)),(some (.cells (dM bC) false false)),(some (.cells (aW mD.2.2) false true))])
def Ka(mD:Bool×Int×List aB)(fE:bE)(bC:aB):Bool→Ex×Fast×WH:=λe=>(.normal,[(0,(.ptr (some (0,1)))),(3,(.ptr (some (1,0)))),(7,(.acc 2 0 4 mD.2.2.length true)),(8,(.bool mD.1)),(9,(.int .i64 mD.2.1)),(60,(.bool e))],[(some (.cells (dN fE) false false)),(some (.cells (dM bC) false false)),(some (.cells (aW mD.2.2) false true))])
def wH(mD:Bool×Int×List aB)(fE:bE)(bC:aB):Option (Bool) :=
 cond (!mD.1) ((dH fE.S_.L mD.2.1).bind λ(qj:aB)=>some (decide (qj.Client≥bC.Client))) (some false)
theorem MZ(d:Nat){mD:Bool×Int×List aB}{fE:bE}{bC:aB}{r:Bool}(h:wH mD fE bC=some r):dx (bF (aQ aT (d+0)) KK 96 xX) 1 (LG mD fE bC) (Ka mD fE bC r):=by
 unfold wH at h
 exact bU nB Ce h (.br 48 (λ_=>.bd λqj Uq=>Ix dQ 54 Uq<|E1 [0,3,7,8,9,60] [none,none,none,none,none,none] [] [.undef,.undef,.slice none 4 0 0 true,.undef,.undef,.undef]) λ_=>E1 [0,3,7,8,9,60] [none,none,none,none,none,none] [] [.undef,.undef,.slice none 4 0 0 true,.undef,.undef,.undef])
abbrev LH(mD:Bool×Int×List aB)(fE:bE)(bC:aB):Fast×WH:=([(0,(.ptr (some (0,1)))),(3,(.ptr (some (1,0)))),(7,(.acc 2 0 4 mD.2.2.length true)),(8,(.bool mD.1)),(9,(.int .i64 mD.2.1))],[(some (.cells (dN fE) false false)),(some (.cells (dM bC) false false)),(some (.cells (aW mD.2.2) false true))])
def Kc(mD:Bool×Int×List aB)(fE:bE)(bC:aB):(Bool×List aB)→Ex×Fast×WH:=λe=>(.normal,[(0,(.ptr (some (0,1)))),(3,(.ptr (some (1,0)))),(7,(.acc 2 0 4 e.2.length true)),(8,(.bool e.1)),(9,(.int .i64 mD.2.1))],[(some (.cells (dN fE) false false)),(some (.cells (dM bC) false false)),(some (.cells (aW e.2) false true))])
def wI(mD:Bool×Int×List aB)(fE:bE)(bC:aB):Option ((Bool×List aB)) :=
 (wH mD fE bC).bind λ(x20:Bool)=>cond x20 (gd (dR 40 (mD.2.2++[bC]).length) (some (true,(mD.2.2++[bC])))) (some (mD.1,mD.2.2))
theorem M4(d:Nat){mD:Bool×Int×List aB}{fE:bE}{bC:aB}{r:(Bool×List aB)}(h:wI mD fE bC=some r):dx (bF (aQ aT (d+0)) KK 96 zW) 1 (LH mD fE bC) (Kc mD fE bC r):=by
 unfold wI at h
 exact bU nB CX h (.bd λx20 q20=>Jn [0,3,7,8,9] [none,none,none,none,none] [] [.undef,.undef,.slice none 4 0 0 true,.undef,.undef] (MZ (d+0) q20)<|.br 60 (λ_=>.gd λq21=>Ap dQ 64 q21<|E1 [0,3,7,8,9] [none,none,none,none,none] [] [.undef,.undef,.slice none 4 0 0 true,.undef,.undef]) λ_=>E1 [0,3,7,8,9] [none,none,none,none,none] [] [.undef,.undef,.slice none 4 0 0 true,.undef,.undef])
def ng(fE:bE)(bC:aB)(mD:Bool×Int×List aB):List AV×WH:=([(.ptr (some (0,1))),(.ptr (some (1,0))),(.acc 2 0 4 mD.2.2.length true),(.bool mD.1),(.int .i64 mD.2.1)],[(some (.cells (dN fE) false false)),(some (.cells (dM bC) false false)),(some (.cells (aW mD.2.2) false true))])
def rR(fE:bE)(bC:aB):(Bool×List aB)→Ex×Fast×WH:=λe=>((.exit 0),[(0,(.ptr (some (0,1)))),(3,(.ptr (some (1,0)))),(7,(.acc 2 0 4 e.2.length true)),(8,(.bool e.1))],[(some (.cells (dN fE) false false)),(some (.cells (dM bC) false false)),(some (.cells (aW e.2) false true))])
abbrev LJ(fE:bE)(bC:aB):=eF [0,3,7,8,9] (ng fE bC) (rR fE bC)
def nR(fE:bE)(bC:aB)(mD:Bool×Int×List aB):Option ((Bool×Int×List aB)⊕((Bool×List aB))) :=
 cond (decide (mD.2.1<(fE.S_.L.length:Int))) ((wI mD fE bC).bind λ(I9:(Bool×List aB))=>(dH fE.S_.L mD.2.1).bind λ(x23:aB)=>cond (x23.Client != bC.Client) ((dH fE.S_.L mD.2.1).bind λ(x24:aB)=>gd (dR 40 (I9.2++[x24]).length) (some (.inl (I9.1,(IntKind.i64.wrap (mD.2.1+1)),(I9.2++[x24]))))) (some (.inl (I9.1,(IntKind.i64.wrap (mD.2.1+1)),I9.2)))) (some (.inr (mD.1,mD.2.2)))
def wJ(fE:bE)(bC:aB)(mD:Bool×Int×List aB):Option ((Bool×List aB)):=dG (nR fE bC) KK mD
theorem M5(d:Nat){fE:bE}{bC:aB}{mD:Bool×Int×List aB}{r:(Bool×Int×List aB)⊕((Bool×List aB))}(h:nR fE bC mD=some r):dx (bF (aQ aT (d+0)) KK 96 WS) 1 (jM [0,3,7,8,9] (ng fE bC mD)) (LJ fE bC r):=by
 unfold nR at h
 exact bU nB acY h (.br 43 (λ_=>.sk<|.bd λI9 q22=>Jn [0,3,7,8,9] [none,none,none,none,none] [] [.undef,.undef,.slice none 4 0 0 true,.undef,.undef] (M4 (d+0) q22)<|.bd λx23 q23=>Ix dQ 70 q23<|.br 75 (λ_=>.bd λx24 q24=>Ix dQ 82 q24<|.gd λq25=>Ap dQ 85 q25<|E1 [0,3,7,8,9] [none,none,none,none,none] [] [.undef,.undef,.slice none 4 0 0 true,.undef,.undef]) λ_=>E1 [0,3,7,8,9] [none,none,none,none,none] [] [.undef,.undef,.slice none 4 0 0 true,.undef,.undef]) λ_=>E1 [0,3,7,8] [none,none,none,none] [] [.undef,.undef,.slice none 4 0 0 true,.undef])
theorem M6(d:Nat){fE:bE}{bC:aB}{mD:Bool×Int×List aB}{r:(Bool×List aB)}(h:wJ fE bC mD=some r):dx (fQ (bF (aQ aT (d+0)) KK 96 WS) [0,3,7,8,9] KK) 1 (jM [0,3,7,8,9] (ng fE bC mD)) (rR fE bC r) :=
 dS (st:=ng fE bC) (fin:=rR fE bC) (step:=nR fE bC) (λe=>by(intro h;cases h)) (λs x h=>M5 d h) KK mD r h
abbrev LK(jL:(Bool×List aB))(bC:aB)(fE:bE):Fast×WH:=([(0,(.ptr (some (0,1)))),(3,(.ptr (some (1,0)))),(7,(.acc 2 0 4 jL.2.length true)),(8,(.bool jL.1))],[(some (.cells (dN fE) false false)),(some (.cells (dM bC) false false)),(some (.cells (aW jL.2) false true))])
def Ke(jL:(Bool×List aB))(bC:aB)(fE:bE):(List aB)→Ex×Fast×WH:=λe=>(.normal,[(0,(.ptr (some (0,1)))),(7,(.acc 1 0 4 e.length true))],[(some (.cells (dN fE) false false)),(some (.cells (aW e) false true))])
def qR(jL:(Bool×List aB))(bC:aB)(fE:bE):Option ((List aB)) :=
 cond (!jL.1) (gd (dR 40 (jL.2++[bC]).length) (some (jL.2++[bC]))) (some jL.2)
theorem M7(d:Nat){jL:(Bool×List aB)}{bC:aB}{fE:bE}{r:(List aB)}(h:qR jL bC fE=some r):dx (bF (aQ aT (d+0)) KK 96 Lj) 1 (LK jL bC fE) (Ke jL bC fE r):=by
 unfold qR at h
 exact bU nB MK h (.br 87 (λ_=>.gd λq27=>Ap dQ 91 q27<|E1 [0,7] [none,none] [] [.undef,.slice none 4 0 0 true]) λ_=>E1 [0,7] [none,none] [] [.undef,.slice none 4 0 0 true])
def mI(bC:aB)(fE:bE):Option (Bool×bE) :=
 (mH bC.Client fE).bind λ(x1:aB×Bool)=>(qQ bC x1 fE).bind λ(x2:Unit⊕Unit)=>cond (jY x2) (some (false,fE)) ((wJ fE bC (false,0,[])).bind λ(jL:(Bool×List aB))=>(qR jL bC fE).bind λ(x28:(List aB))=>some (true,(⟨fE.T,(⟨x28⟩:sG),fE.ID,fE.Epoch⟩:bE)))
def Db(bC:aB)(fE:bE)(r:Bool×bE):AV×WH:=((.bool r.1),[(some (.cells (dN r.2) false false))])
theorem Q9(d:Nat){bC:aB}{fE:bE}{r:Bool×bE}(h:mI bC fE=some r):Spec (aQ aT (d+2)) 115 [(.ptr (some (0,1))),(.agg (dM bC))] [(some (.cells (dN fE) false false))] (Db bC fE r).1 (Db bC fE r).2:=by
 unfold mI at h
 exact bK nB ayY h (.bd λx1 q1=>Cl [] Fo [] (FP (d+0) q1)<|.st none<|.bd λx2 q2=>.ite (λhb3=>Jn [0,3,5] [none,none,none] [] [] (kI (il hb3) (Ck (d+1) q2))<|Fn Fo [] Fo) λhb3=>Jn [0,3,5] [none,none,none] [] [] (kI (Ai hb3) (Ck (d+1) q2))<|.z 7 [.slice none 4 0 0 true]<|.bd λjL q26=>Lp [none,none,Tw,none,none] [] [.undef,.undef,.slice none 4 0 0 true,.undef,.undef] (M6 (d+1) q26)<|.bd λx28 q28=>Jn [0,3,7,8] [none,none,none,none] [] [.undef,.undef,.slice none 4 0 0 true,.undef] (M7 (d+1) q28)<|.st none<|Fn Fo [] Fo)
def zh(p_r:bJ)(fE:bE):Option (aJ×Bool×bE) :=
 (Cg p_r).bind λ(x1:Bool)=>cond (!x1) (some ((⟨1,([]:List UInt8)⟩:aJ),false,fE)) ((mH p_r.Client fE).bind λ(x2:aB×Bool)=>cond (p_r.Seq==x2.1.Seq) (some (x2.1.Answer,false,fE)) (cond (decide (p_r.Seq<x2.1.Seq)) (some ((⟨9,([]:List UInt8)⟩:aJ),false,fE)) ((Ar p_r.Op fE).bind λ(x3:aJ×bE)=>(mI (⟨p_r.Client,p_r.Seq,x3.1⟩:aB) x3.2).bind λ(x4:Bool×bE)=>some (x3.1,true,x4.2))))
def M8(p_r:bJ)(fE:bE)(r:aJ×Bool×bE):AV×WH:=((.tuple [(.agg (fM r.1)),(.bool r.2.1)]),[(some (.cells (dN r.2.2) false false))])
theorem Q_(d:Nat){p_r:bJ}{fE:bE}{r:aJ×Bool×bE}(h:zh p_r fE=some r):Spec (aQ aT (d+3)) 82 [(.ptr (some (0,0))),(.agg (wh p_r))] [(some (.cells (dN fE) false false))] (M8 p_r fE r).1 (M8 p_r fE r).2:=by
 unfold zh at h
 exact bK nB aDd h (.bd λx1 q1=>jw (Un (d+0) q1)<|.br 11 (λ_=>.st none<|Fn Fo [] none) λ_=>.bd λx2 q2=>Cl [] Fo [] (FP (d+1) q2)<|.st none<|.br 22 (λ_=>.st none<|Fn Fo [] none) λ_=>.br 30 (λ_=>.st none<|Fn Fo [] none) λ_=>.bd λx3 q3=>Cl [] Fo [] (aaJ (d+0) q3)<|.st none<|.bd λx4 q4=>Cl [] Fo [] (Q9 (d+0) q4)<|.st none<|Fn Fo [] none)
def xZ(fE:bE):Option (aM) :=
 gd (dR 32 fE.T.L.length) (gd (dR 40 fE.S_.L.length) (some (⟨fE.ID,fE.Epoch,fE.T.L,fE.S_.L⟩:aM)))
def Jc(fE:bE)(r:aM):AV×WH:=((.agg (dB r)),[(some (.cells (dN fE) false false))])
theorem YO(d:Nat){fE:bE}{r:aM}(h:xZ fE=some r):Spec (aQ aT (d+1)) 83 [(.ptr (some (0,0)))] [(some (.cells (dN fE) false false))] (Jc fE r).1 (Jc fE r).2:=by
 unfold xZ at h
 exact bK nB aAQ h (.z 2 [.undef,.undef,.slice none 2 0 0 true,.slice none 4 0 0 true]<|.gd λq1=>Ap0 bn 17 q1<|.er<|.ob (rfl:@Eq (Option AV) (some (dY fE.S_.L)) (some (dY fE.S_.L)))<|.gd λq2=>Ap0 dQ 24 q2<|.st none<|Fn Fo [.agg [.undef,.undef,.slice none 2 0 0 true,.slice none 4 0 0 true]] none)
def pO(fE:bE):Option (Int×Int×List aF×List aB) :=
 gd (dR 32 fE.T.L.length) (gd (dR 40 fE.S_.L.length) (some (fE.ID,fE.Epoch,fE.T.L,fE.S_.L)))
def FR(fE:bE)(r:Int×Int×List aF×List aB):AV×WH:=((.agg [(.int .i64 r.1),(.int .i64 r.2.1),(.acc 1 0 2 r.2.2.1.length true),(.acc 2 0 4 r.2.2.2.length true)]),[(some (.cells (dN fE) false false)),(some (.cells (aO r.2.2.1) false true)),(some (.cells (aW r.2.2.2) false true))])
theorem Jd(d:Nat){fE:bE}{r:Int×Int×List aF×List aB}(h:pO fE=some r):Spec (aQ aT (d+1)) 83 [(.ptr (some (0,0)))] [(some (.cells (dN fE) false false))] (FR fE r).1 (FR fE r).2:=by
 unfold pO at h
 exact bK nB aAQ h (.z 2 [.undef,.undef,.slice none 2 0 0 true,.slice none 4 0 0 true]<|.gd λq1=>Ap0 bn 17 q1<|.er<|.ob (rfl:@Eq (Option AV) (some (dY fE.S_.L)) (some (dY fE.S_.L)))<|.gd λq2=>Ap0 dQ 24 q2<|.st none<|Fn none [.agg [.undef,.undef,.slice none 2 0 0 true,.slice none 4 0 0 true]] none)
abbrev ade(s10:Int×bE)(l:List eX)(f_:Int):Fast×WH:=([(2,(uZ l)),(3,(.int .i64 f_)),(8,(.ptr (some (0,0)))),(9,(.ptr (some (1,0)))),(10,(.int .i64 s10.1))],[(some (.cells [(.int .i64 0),(.int .i64 0),(.slice none 2 0 0 true),(.slice none 4 0 0 true)] false false)),(some (.cells (dN s10.2) false false))])
def aaK(s10:Int×bE)(l:List eX)(f_:Int):Unit⊕Unit→Ex×Fast×WH:=fun
 |.inl e=>(.normal,[(2,(uZ l)),(3,(.int .i64 f_)),(8,(.ptr (some (0,0)))),(9,(.ptr (some (1,0)))),(10,(.int .i64 s10.1))],[(some (.cells [(.int .i64 0),(.int .i64 0),(.slice none 2 0 0 true),(.slice none 4 0 0 true)] false false)),(some (.cells (dN s10.2) false false))])
 |.inr e=>((.exit 0),[(3,(.int .i64 f_)),(8,(.ptr (some (0,0)))),(9,(.ptr (some (1,0))))],[(some (.cells [(.int .i64 0),(.int .i64 0),(.slice none 2 0 0 true),(.slice none 4 0 0 true)] false false)),(some (.cells (dN s10.2) false false))])
def KL(s10:Int×bE)(l:List eX)(f_:Int):Option (Unit⊕Unit) :=
 cond (decide (s10.1<(l.length:Int))) (cond (decide (s10.1<12)) (some (.inl ())) (some (.inr ()))) (some (.inr ()))
theorem Ur(d:Nat){s10:Int×bE}{l:List eX}{f_:Int}{r:Unit⊕Unit}(h:KL s10 l f_=some r):dx (bF (aQ aT (d+0)) KK 113 Oi) 0 (ade s10 l f_) (aaK s10 l f_ r):=by
 unfold KL at h
 exact bU nB O6 h (.br 25 (λ_=>.br 28 (λ_=>E1 [2,3,8,9,10] [none,none,none,none,none] [] [.slice none 8 0 0 true,.undef,.undef,.undef,.undef]) λ_=>E0 [3,8,9]) λ_=>E0 [3,8,9])
def Dc(l:List eX)(f_:Int)(s10:Int×bE):List AV×WH:=([(uZ l),(.int .i64 f_),(.ptr (some (0,0))),(.ptr (some (1,0))),(.int .i64 s10.1)],[(some (.cells [(.int .i64 0),(.int .i64 0),(.slice none 2 0 0 true),(.slice none 4 0 0 true)] false false)),(some (.cells (dN s10.2) false false))])
def Gy(l:List eX)(f_:Int):bE→Ex×Fast×WH:=λe=>((.exit 0),[(3,(.int .i64 f_)),(8,(.ptr (some (0,0)))),(9,(.ptr (some (1,0))))],[(some (.cells [(.int .i64 0),(.int .i64 0),(.slice none 2 0 0 true),(.slice none 4 0 0 true)] false false)),(some (.cells (dN e) false false))])
abbrev adf(l:List eX)(f_:Int):=eF [2,3,8,9,10] (Dc l f_) (Gy l f_)
def Au(l:List eX)(f_:Int)(s10:Int×bE):Option ((Int×bE)⊕(bE)) :=
 (KL s10 l f_).bind λ(dV:Unit⊕Unit)=>cond (jY dV) ((dH l s10.1).bind λ(rV:eX)=>(b_ rV.Kind 3).bind λ(nO:Int)=>(Ll (⟨(IntKind.i64.wrap (1+nO)),rV.Key,rV.Value,rV.Old,rV.Client,rV.Seq,0,rV.Text⟩:eX)).bind λ(dP:bJ)=>(zh dP s10.2).bind λ(Bz:aJ×Bool×bE)=>some (.inl ((IntKind.i64.wrap (s10.1+1)),Bz.2.2))) (some (.inr s10.2))
def Ra(l:List eX)(f_:Int)(s10:Int×bE):Option (bE):=dG (Au l f_) KK s10
theorem aeA(d:Nat){l:List eX}{f_:Int}{s10:Int×bE}{r:(Int×bE)⊕(bE)}(h:Au l f_ s10=some r):dx (bF (aQ aT (d+4)) KK 113 acM) 0 (jM [2,3,8,9,10] (Dc l f_ s10)) (adf l f_ r):=by
 unfold Au at h
 exact bU nB afN h (.bd λdV J5=>.ite (λVh=>Jn [2,3,8,9,10] [none,none,none,none,none] [] [.slice none 8 0 0 true,.undef,.undef,.undef,.undef] (kI (il Vh) (Ur (d+4) J5))<|.bd λrV YL=>Ix U4 33 YL<|.st none<|.st none<|.bd λnO PZ=>jw (dw (d+3) PZ)<|.st none<|.bd λdP Md=>jw (WY (d+0) Md)<|.bd λBz q16=>Cl [] Fo [] (Q_ (d+1) q16)<|E1 [2,3,8,9,10] [none,none,none,none,none] [] [.slice none 8 0 0 true,.undef,.undef,.undef,.undef]) λVh=>Jn [2,3,8,9,10] [none,none,none,none,none] [] [.slice none 8 0 0 true,.undef,.undef,.undef,.undef] (kI (Ai Vh) (Ur (d+4) J5))<|E0 [3,8,9])
theorem aeB(d:Nat){l:List eX}{f_:Int}{s10:Int×bE}{r:bE}(h:Ra l f_ s10=some r):dx (fQ (bF (aQ aT (d+4)) KK 113 acM) [2,3,8,9,10] KK) 0 (jM [2,3,8,9,10] (Dc l f_ s10)) (Gy l f_ r) :=
 dS (st:=Dc l f_) (fin:=Gy l f_) (step:=Au l f_) (λe=>by(intro h;cases h)) (λs x h=>aeA d h) KK s10 r h
def Rb(k:Int)(epoch:Int)(l:List eX)(f_:Int):Option (aM) :=
 (b_ k 6).bind λ(x1:Int)=>(b_ epoch 6).bind λ(x2:Int)=>(oL (⟨x1,(IntKind.i64.wrap (1+x2)),[],[]⟩:aM)).bind λ(x3:bE)=>(Ra l f_ (0,x3)).bind λ(kJ:bE)=>(pO kJ).bind λ(x18:Int×Int×List aF×List aB)=>(b_ f_ 14).bind λ(qj:Int)=>cond (qj==8) ((CY (IntKind.i64.wrap (Int.tdiv f_ 14))).bind λ(x20:Int)=>some (⟨x20,x18.2.1,x18.2.2.1,x18.2.2.2⟩:aM)) (cond (qj==9) ((CY (IntKind.i64.wrap (Int.tdiv f_ 14))).bind λ(x21:Int)=>some (⟨x18.1,(IntKind.i64.wrap (x21-1)),x18.2.2.1,x18.2.2.2⟩:aM)) (cond (qj==10) ((Ol (IntKind.i64.wrap (Int.tdiv f_ 14))).bind λ(I9:List UInt8)=>gd (dR 32 (x18.2.2.1++[(⟨I9,[118]⟩:aF)]).length) (some (⟨x18.1,x18.2.1,(x18.2.2.1++[(⟨I9,[118]⟩:aF)]),x18.2.2.2⟩:aM))) (cond (qj==11) (cond (decide ((x18.2.2.2.length:Int)>0)) ((b_ (IntKind.i64.wrap (Int.tdiv f_ 14)) 14).bind λ(x24:Int)=>(dH x18.2.2.2 0).bind λ(x25:aB)=>some (⟨x18.1,x18.2.1,x18.2.2.1,(x18.2.2.2.set (0:Int).toNat (⟨x25.Client,x25.Seq,(⟨(IntKind.i64.wrap (x24-1)),x25.Answer.Value⟩:aJ)⟩:aB))⟩:aM)) (some (⟨x18.1,x18.2.1,x18.2.2.1,x18.2.2.2⟩:aM))) (cond (qj==12) (cond (decide ((x18.2.2.1.length:Int)>1)) ((dH x18.2.2.1 0).bind λ(jL:aF)=>(dH x18.2.2.1 1).bind λ(x27:aF)=>(dH x18.2.2.1 0).bind λ(x28:aF)=>(dH (x18.2.2.1.set (0:Int).toNat x27) 1).bind λ(x29:aF)=>some (⟨x18.1,x18.2.1,((x18.2.2.1.set (0:Int).toNat x27).set (1:Int).toNat jL),x18.2.2.2⟩:aM)) (some (⟨x18.1,x18.2.1,x18.2.2.1,x18.2.2.2⟩:aM))) (cond (qj==13) (some (⟨0,0,[],[]⟩:aM)) (some (⟨x18.1,x18.2.1,x18.2.2.1,x18.2.2.2⟩:aM)))))))
def ni(k:Int)(epoch:Int)(l:List eX)(f_:Int)(r:aM):AV×WH:=((.agg (dB r)),[])
theorem ams(d:Nat){k:Int}{epoch:Int}{l:List eX}{f_:Int}{r:aM}(h:Rb k epoch l f_=some r):Spec (aQ aT (d+5)) 36 [(.int .i64 k),(.int .i64 epoch),(uZ l),(.int .i64 f_)] [] (ni k epoch l f_ r).1 (ni k epoch l f_ r).2:=by
 unfold Rb at h
 exact bK nB aAN h (.z 8 [.undef,.undef,.slice none 2 0 0 true,.slice none 4 0 0 true]<|.bd λx1 q1=>jw (dw (d+3) q1)<|.bd λx2 q2=>jw (dw (d+3) q2)<|.z 19 [.agg [.undef,.undef,.slice none 2 0 0 true,.slice none 4 0 0 true]]<|.bd λx3 q3=>Cl [] Fo [.agg [.undef,.undef,.slice none 2 0 0 true,.slice none 4 0 0 true]] (I_ (d+0) q3)<|.bd λkJ J4=>Lp [none,none,none,none,none] [] [.slice none 8 0 0 true,.undef,.undef,.undef,.undef] (aeB (d+0) J4)<|.bd λx18 YM=>Cl [Fo] none [] (Jd (d+3) YM)<|.z 12 [.undef,.undef,.slice none 2 0 0 true,.slice none 4 0 0 true]<|.st none<|.bd λqj Uq=>jw (dw (d+3) Uq)<|.br 49 (λ_=>.bd λx20 q20=>jw (Al (d+2) q20)<|.st none<|.st none<|Fn Fo [.agg [.undef,.undef,.slice none 2 0 0 true,.slice none 4 0 0 true]] none) λ_=>.br 55 (λ_=>.bd λx21 q21=>jw (Al (d+2) q21)<|.st none<|.st none<|Fn Fo [.agg [.undef,.undef,.slice none 2 0 0 true,.slice none 4 0 0 true]] none) λ_=>.br 62 (λ_=>.bd λI9 q22=>jw (ac9 (d+2) q22)<|.gd λq23=>Ap bn 71 q23<|.st none<|.st none<|Fn Fo [.agg [.undef,.undef,.slice none 2 0 0 true,.slice none 4 0 0 true]] none) λ_=>.br 73 (λ_=>.br 78 (λ_=>.bd λx24 q24=>jw (dw (d+3) q24)<|.bd λx25 q25=>Ia dQ 85 3 q25<|.st (some (aW (x18.2.2.2.set (0:Int).toNat (⟨x25.Client,x25.Seq,(⟨(IntKind.i64.wrap (x24-1)),x25.Answer.Value⟩:aJ)⟩:aB))))<|.ob (CS (o:=2) dQ q25 rfl:Wq (aW x18.2.2.2) (0+(0:Int).toNat*4+2) [(.int .i64 (IntKind.i64.wrap (x24-1)))]=some (aW (x18.2.2.2.set (0:Int).toNat (⟨x25.Client,x25.Seq,(⟨(IntKind.i64.wrap (x24-1)),x25.Answer.Value⟩:aJ)⟩:aB))))<|.st none<|.zN (.fin (some false) [.agg [.undef,.undef,.slice none 2 0 0 true,.slice none 4 0 0 true]] none) _ (λr=>@Eq AV (.agg [(.int .i64 x18.1),(.int .i64 x18.2.1),(dA x18.2.2.1),(.list 4 x18.2.2.2.length (aW (x18.2.2.2.set (0:Int).toNat (⟨x25.Client,x25.Seq,(⟨(IntKind.i64.wrap (x24-1)),x25.Answer.Value⟩:aJ)⟩:aB))) false)]) (ni k epoch l f_ r).1∧@Eq WH [] (ni k epoch l f_ r).2) (by show _∧_;(try rw[show AV.list 4 x18.2.2.2.length (aW (x18.2.2.2.set (0:Int).toNat (⟨x25.Client,x25.Seq,(⟨(IntKind.i64.wrap (x24-1)),x25.Answer.Value⟩:aJ)⟩:aB))) false=dY (x18.2.2.2.set (0:Int).toNat (⟨x25.Client,x25.Seq,(⟨(IntKind.i64.wrap (x24-1)),x25.Answer.Value⟩:aJ)⟩:aB))from by simp only[dY,bB]]);refine⟨?_, ?_⟩<;>first | rfl |(simp only[ni,bB,aD,List.length_replicate,bA,bN,bf,aZ,Nat.add_zero,Nat.zero_add];done) | simp[ni])) λ_=>.st none<|Fn Fo [.agg [.undef,.undef,.slice none 2 0 0 true,.slice none 4 0 0 true]] none) λ_=>.br 88 (λ_=>.br 93 (λ_=>.bd λjL q26=>Ia bn 96 2 q26<|Ld bn 97 true 2 0 q26 (.agg (u7 jL)) rfl<|.st none<|.bd λx27 q27=>Ia bn 102 2 q27<|Ld bn 103 true 2 0 q27 (.agg (u7 x27)) rfl<|.bd λx28 q28=>Ia bn 104 2 q28<|.st (some (aO (x18.2.2.1.set (0:Int).toNat x27)))<|.ob (CS (o:=0) bn q28 rfl:Wq (aO x18.2.2.1) (0+(0:Int).toNat*2) [(.str x27.Key),(.str x27.Value)]=some (aO (x18.2.2.1.set (0:Int).toNat x27)))<|.bd λx29 q29=>.v 108 (.ptr (some (2,0+(1:Int).toNat*2)))<|.ob (by(try rw[show AV.list 2 x18.2.2.1.length (aO (x18.2.2.1.set (0:Int).toNat x27)) false=dA (x18.2.2.1.set (0:Int).toNat x27)from by simp only[dA,bB]]);rw[show(x18.2.2.1.length:Nat)=(x18.2.2.1.set (0:Int).toNat x27).length from by simp only[bB,aD,List.length_replicate]];exact SS bn q29:wP (.kU 2 (.c (.acc 2 0 2 x18.2.2.1.length true)) (.c (.int .i64 1)))=some (.ptr (some (2,0+(1:Int).toNat*2))))<|.st (some (aO ((x18.2.2.1.set (0:Int).toNat x27).set (1:Int).toNat jL)))<|.ob (by(try rw[show AV.list 2 x18.2.2.1.length (aO (x18.2.2.1.set (0:Int).toNat x27)) false=dA (x18.2.2.1.set (0:Int).toNat x27)from by simp only[dA,bB]]);exact CS (o:=0) bn q29 rfl:Wq (aO (x18.2.2.1.set (0:Int).toNat x27)) (0+(1:Int).toNat*2) [(.str jL.Key),(.str jL.Value)]=some (aO ((x18.2.2.1.set (0:Int).toNat x27).set (1:Int).toNat jL)))<|.st none<|.zN (.fin (some false) [.agg [.undef,.undef,.slice none 2 0 0 true,.slice none 4 0 0 true]] none) _ (λr=>@Eq AV (.agg [(.int .i64 x18.1),(.int .i64 x18.2.1),(.list 2 x18.2.2.1.length (aO ((x18.2.2.1.set (0:Int).toNat x27).set (1:Int).toNat jL)) false),(dY x18.2.2.2)]) (ni k epoch l f_ r).1∧@Eq WH [] (ni k epoch l f_ r).2) (by show _∧_;(try rw[show AV.list 2 x18.2.2.1.length (aO (x18.2.2.1.set (0:Int).toNat x27)) false=dA (x18.2.2.1.set (0:Int).toNat x27)from by simp only[dA,bB]]);(try rw[show AV.list 2 x18.2.2.1.length (aO ((x18.2.2.1.set (0:Int).toNat x27).set (1:Int).toNat jL)) false=dA ((x18.2.2.1.set (0:Int).toNat x27).set (1:Int).toNat jL)from by simp only[dA,bB]]);refine⟨?_, ?_⟩<;>first | rfl |(simp only[ni,bB,aD,List.length_replicate,bA,bN,bf,aZ,Nat.add_zero,Nat.zero_add];done) | simp[ni])) λ_=>.st none<|Fn Fo [.agg [.undef,.undef,.slice none 2 0 0 true,.slice none 4 0 0 true]] none) λ_=>.br 109 (λ_=>.z 111 [.agg [.undef,.undef,.slice none 2 0 0 true,.slice none 4 0 0 true]]<|.st none<|.st none<|Fn Fo [.agg [.undef,.undef,.slice none 2 0 0 true,.slice none 4 0 0 true]] none) λ_=>.st none<|Fn Fo [.agg [.undef,.undef,.slice none 2 0 0 true,.slice none 4 0 0 true]] none)
abbrev YP(s10:Int×bE)(l:List eX)(f_:Int):Fast×WH:=([(2,(uZ l)),(3,(.int .i64 f_)),(8,(.ptr (some (0,0)))),(9,(.ptr (some (1,0)))),(10,(.int .i64 s10.1))],[(some (.cells [(.int .i64 0),(.int .i64 0),(.slice none 2 0 0 true),(.slice none 4 0 0 true)] false false)),(some (.cells (dN s10.2) false false))])
def Xa(s10:Int×bE)(l:List eX)(f_:Int):Unit⊕Unit→Ex×Fast×WH:=fun
 |.inl e=>(.normal,[(2,(uZ l)),(3,(.int .i64 f_)),(8,(.ptr (some (0,0)))),(9,(.ptr (some (1,0)))),(10,(.int .i64 s10.1))],[(some (.cells [(.int .i64 0),(.int .i64 0),(.slice none 2 0 0 true),(.slice none 4 0 0 true)] false false)),(some (.cells (dN s10.2) false false))])
 |.inr e=>((.exit 0),[(3,(.int .i64 f_)),(8,(.ptr (some (0,0)))),(9,(.ptr (some (1,0))))],[(some (.cells [(.int .i64 0),(.int .i64 0),(.slice none 2 0 0 true),(.slice none 4 0 0 true)] false false)),(some (.cells (dN s10.2) false false))])
def Fa(s10:Int×bE)(l:List eX)(f_:Int):Option (Unit⊕Unit) :=
 cond (decide (s10.1<(l.length:Int))) (cond (decide (s10.1<12)) (some (.inl ())) (some (.inr ()))) (some (.inr ()))
theorem O9(d:Nat){s10:Int×bE}{l:List eX}{f_:Int}{r:Unit⊕Unit}(h:Fa s10 l f_=some r):dx (bF (aQ aT (d+0)) KK 113 Oi) 0 (YP s10 l f_) (Xa s10 l f_ r):=by
 unfold Fa at h
 exact bU nB O6 h (.br 25 (λ_=>.br 28 (λ_=>E1 [2,3,8,9,10] [none,none,none,none,none] [] [.slice none 8 0 0 true,.undef,.undef,.undef,.undef]) λ_=>E0 [3,8,9]) λ_=>E0 [3,8,9])
def zi(l:List eX)(f_:Int)(s10:Int×bE):List AV×WH:=([(uZ l),(.int .i64 f_),(.ptr (some (0,0))),(.ptr (some (1,0))),(.int .i64 s10.1)],[(some (.cells [(.int .i64 0),(.int .i64 0),(.slice none 2 0 0 true),(.slice none 4 0 0 true)] false false)),(some (.cells (dN s10.2) false false))])
def Df(l:List eX)(f_:Int):bE→Ex×Fast×WH:=λe=>((.exit 0),[(3,(.int .i64 f_)),(8,(.ptr (some (0,0)))),(9,(.ptr (some (1,0))))],[(some (.cells [(.int .i64 0),(.int .i64 0),(.slice none 2 0 0 true),(.slice none 4 0 0 true)] false false)),(some (.cells (dN e) false false))])
abbrev YQ(l:List eX)(f_:Int):=eF [2,3,8,9,10] (zi l f_) (Df l f_)
def vS(l:List eX)(f_:Int)(s10:Int×bE):Option ((Int×bE)⊕(bE)) :=
 (Fa s10 l f_).bind λ(dV:Unit⊕Unit)=>cond (jY dV) ((dH l s10.1).bind λ(rV:eX)=>(b_ rV.Kind 3).bind λ(nO:Int)=>(Ll (⟨(IntKind.i64.wrap (1+nO)),rV.Key,rV.Value,rV.Old,rV.Client,rV.Seq,0,rV.Text⟩:eX)).bind λ(dP:bJ)=>(zh dP s10.2).bind λ(Bz:aJ×Bool×bE)=>some (.inl ((IntKind.i64.wrap (s10.1+1)),Bz.2.2))) (some (.inr s10.2))
def LM(l:List eX)(f_:Int)(s10:Int×bE):Option (bE):=dG (vS l f_) KK s10
theorem aaL(d:Nat){l:List eX}{f_:Int}{s10:Int×bE}{r:(Int×bE)⊕(bE)}(h:vS l f_ s10=some r):dx (bF (aQ aT (d+4)) KK 113 acM) 0 (jM [2,3,8,9,10] (zi l f_ s10)) (YQ l f_ r):=by
 unfold vS at h
 exact bU nB afN h (.bd λdV J5=>.ite (λVh=>Jn [2,3,8,9,10] [none,none,none,none,none] [] [.slice none 8 0 0 true,.undef,.undef,.undef,.undef] (kI (il Vh) (O9 (d+4) J5))<|.bd λrV YL=>Ix U4 33 YL<|.st none<|.st none<|.bd λnO PZ=>jw (dw (d+3) PZ)<|.st none<|.bd λdP Md=>jw (WY (d+0) Md)<|.bd λBz q16=>Cl [] Fo [] (Q_ (d+1) q16)<|E1 [2,3,8,9,10] [none,none,none,none,none] [] [.slice none 8 0 0 true,.undef,.undef,.undef,.undef]) λVh=>Jn [2,3,8,9,10] [none,none,none,none,none] [] [.slice none 8 0 0 true,.undef,.undef,.undef,.undef] (kI (Ai Vh) (O9 (d+4) J5))<|E0 [3,8,9])
theorem aaM(d:Nat){l:List eX}{f_:Int}{s10:Int×bE}{r:bE}(h:LM l f_ s10=some r):dx (fQ (bF (aQ aT (d+4)) KK 113 acM) [2,3,8,9,10] KK) 0 (jM [2,3,8,9,10] (zi l f_ s10)) (Df l f_ r) :=
 dS (st:=zi l f_) (fin:=Df l f_) (step:=vS l f_) (λe=>by(intro h;cases h)) (λs x h=>aaL d h) KK s10 r h
def BA(k:Int)(epoch:Int)(l:List eX)(f_:Int):Option (Int×Int×List aF×List aB) :=
 (b_ k 6).bind λ(x1:Int)=>(b_ epoch 6).bind λ(x2:Int)=>(oL (⟨x1,(IntKind.i64.wrap (1+x2)),[],[]⟩:aM)).bind λ(x3:bE)=>(LM l f_ (0,x3)).bind λ(kJ:bE)=>(pO kJ).bind λ(x18:Int×Int×List aF×List aB)=>(b_ f_ 14).bind λ(qj:Int)=>cond (qj==8) ((CY (IntKind.i64.wrap (Int.tdiv f_ 14))).bind λ(x20:Int)=>some (x20,x18.2.1,x18.2.2.1,x18.2.2.2)) (cond (qj==9) ((CY (IntKind.i64.wrap (Int.tdiv f_ 14))).bind λ(x21:Int)=>some (x18.1,(IntKind.i64.wrap (x21-1)),x18.2.2.1,x18.2.2.2)) (cond (qj==10) ((Ol (IntKind.i64.wrap (Int.tdiv f_ 14))).bind λ(I9:List UInt8)=>gd (dR 32 (x18.2.2.1++[(⟨I9,[118]⟩:aF)]).length) (some (x18.1,x18.2.1,(x18.2.2.1++[(⟨I9,[118]⟩:aF)]),x18.2.2.2))) (cond (qj==11) (cond (decide ((x18.2.2.2.length:Int)>0)) ((b_ (IntKind.i64.wrap (Int.tdiv f_ 14)) 14).bind λ(x24:Int)=>(dH x18.2.2.2 0).bind λ(x25:aB)=>some (x18.1,x18.2.1,x18.2.2.1,(x18.2.2.2.set (0:Int).toNat (⟨x25.Client,x25.Seq,(⟨(IntKind.i64.wrap (x24-1)),x25.Answer.Value⟩:aJ)⟩:aB)))) (some (x18.1,x18.2.1,x18.2.2.1,x18.2.2.2))) (cond (qj==12) (cond (decide ((x18.2.2.1.length:Int)>1)) ((dH x18.2.2.1 0).bind λ(jL:aF)=>(dH x18.2.2.1 1).bind λ(x27:aF)=>(dH x18.2.2.1 0).bind λ(x28:aF)=>(dH (x18.2.2.1.set (0:Int).toNat x27) 1).bind λ(x29:aF)=>some (x18.1,x18.2.1,((x18.2.2.1.set (0:Int).toNat x27).set (1:Int).toNat jL),x18.2.2.2)) (some (x18.1,x18.2.1,x18.2.2.1,x18.2.2.2))) (cond (qj==13) (some (0,0,[],[])) (some (x18.1,x18.2.1,x18.2.2.1,x18.2.2.2)))))))
def iB(k:Int)(epoch:Int)(l:List eX)(f_:Int)(r:Int×Int×List aF×List aB):AV×WH:=((.agg [(.int .i64 r.1),(.int .i64 r.2.1),(.acc 0 0 2 r.2.2.1.length true),(.acc 1 0 4 r.2.2.2.length true)]),[(some (.cells (aO r.2.2.1) false true)),(some (.cells (aW r.2.2.2) false true))])
theorem Oo(d:Nat){k:Int}{epoch:Int}{l:List eX}{f_:Int}{r:Int×Int×List aF×List aB}(h:BA k epoch l f_=some r):Spec (aQ aT (d+5)) 36 [(.int .i64 k),(.int .i64 epoch),(uZ l),(.int .i64 f_)] [] (iB k epoch l f_ r).1 (iB k epoch l f_ r).2:=by
 unfold BA at h
 exact bK nB aAN h (.z 8 [.undef,.undef,.slice none 2 0 0 true,.slice none 4 0 0 true]<|.bd λx1 q1=>jw (dw (d+3) q1)<|.bd λx2 q2=>jw (dw (d+3) q2)<|.z 19 [.agg [.undef,.undef,.slice none 2 0 0 true,.slice none 4 0 0 true]]<|.bd λx3 q3=>Cl [] Fo [.agg [.undef,.undef,.slice none 2 0 0 true,.slice none 4 0 0 true]] (I_ (d+0) q3)<|.bd λkJ J4=>Lp [none,none,none,none,none] [] [.slice none 8 0 0 true,.undef,.undef,.undef,.undef] (aaM (d+0) J4)<|.bd λx18 YM=>Cl [Fo] none [] (Jd (d+3) YM)<|.z 12 [.undef,.undef,.slice none 2 0 0 true,.slice none 4 0 0 true]<|.st none<|.bd λqj Uq=>jw (dw (d+3) Uq)<|.br 49 (λ_=>.bd λx20 q20=>jw (Al (d+2) q20)<|.st none<|.st none<|Fn Tw [.agg [.undef,.undef,.slice none 2 0 0 true,.slice none 4 0 0 true]] none) λ_=>.br 55 (λ_=>.bd λx21 q21=>jw (Al (d+2) q21)<|.st none<|.st none<|Fn Tw [.agg [.undef,.undef,.slice none 2 0 0 true,.slice none 4 0 0 true]] none) λ_=>.br 62 (λ_=>.bd λI9 q22=>jw (ac9 (d+2) q22)<|.gd λq23=>Ap bn 71 q23<|.st none<|.st none<|Fn Tw [.agg [.undef,.undef,.slice none 2 0 0 true,.slice none 4 0 0 true]] none) λ_=>.br 73 (λ_=>.br 78 (λ_=>.bd λx24 q24=>jw (dw (d+3) q24)<|.bd λx25 q25=>Ia dQ 85 3 q25<|.st (some (aW (x18.2.2.2.set (0:Int).toNat (⟨x25.Client,x25.Seq,(⟨(IntKind.i64.wrap (x24-1)),x25.Answer.Value⟩:aJ)⟩:aB))))<|.ob (CS (o:=2) dQ q25 rfl:Wq (aW x18.2.2.2) (0+(0:Int).toNat*4+2) [(.int .i64 (IntKind.i64.wrap (x24-1)))]=some (aW (x18.2.2.2.set (0:Int).toNat (⟨x25.Client,x25.Seq,(⟨(IntKind.i64.wrap (x24-1)),x25.Answer.Value⟩:aJ)⟩:aB))))<|.st none<|.zN (.fin (some true) [.agg [.undef,.undef,.slice none 2 0 0 true,.slice none 4 0 0 true]] none) _ (λr=>@Eq AV (.agg [(.int .i64 x18.1),(.int .i64 x18.2.1),(.acc 0 0 2 x18.2.2.1.length true),(.acc 1 0 4 x18.2.2.2.length true)]) (iB k epoch l f_ r).1∧@Eq WH [(some (.cells (aO x18.2.2.1) false true)),(some (.cells (aW (x18.2.2.2.set (0:Int).toNat (⟨x25.Client,x25.Seq,(⟨(IntKind.i64.wrap (x24-1)),x25.Answer.Value⟩:aJ)⟩:aB))) false true))] (iB k epoch l f_ r).2) (by show _∧_;(try rw[show AV.list 4 x18.2.2.2.length (aW (x18.2.2.2.set (0:Int).toNat (⟨x25.Client,x25.Seq,(⟨(IntKind.i64.wrap (x24-1)),x25.Answer.Value⟩:aJ)⟩:aB))) false=dY (x18.2.2.2.set (0:Int).toNat (⟨x25.Client,x25.Seq,(⟨(IntKind.i64.wrap (x24-1)),x25.Answer.Value⟩:aJ)⟩:aB))from by simp only[dY,bB]]);refine⟨?_, ?_⟩<;>first | rfl |(simp only[iB,bB,aD,List.length_replicate,bA,bN,bf,aZ,Nat.add_zero,Nat.zero_add];done) | simp[iB])) λ_=>.st none<|Fn Tw [.agg [.undef,.undef,.slice none 2 0 0 true,.slice none 4 0 0 true]] none) λ_=>.br 88 (λ_=>.br 93 (λ_=>.bd λjL q26=>Ia bn 96 2 q26<|Ld bn 97 true 2 0 q26 (.agg (u7 jL)) rfl<|.st none<|.bd λx27 q27=>Ia bn 102 2 q27<|Ld bn 103 true 2 0 q27 (.agg (u7 x27)) rfl<|.bd λx28 q28=>Ia bn 104 2 q28<|.st (some (aO (x18.2.2.1.set (0:Int).toNat x27)))<|.ob (CS (o:=0) bn q28 rfl:Wq (aO x18.2.2.1) (0+(0:Int).toNat*2) [(.str x27.Key),(.str x27.Value)]=some (aO (x18.2.2.1.set (0:Int).toNat x27)))<|.bd λx29 q29=>.v 108 (.ptr (some (2,0+(1:Int).toNat*2)))<|.ob (by(try rw[show AV.list 2 x18.2.2.1.length (aO (x18.2.2.1.set (0:Int).toNat x27)) false=dA (x18.2.2.1.set (0:Int).toNat x27)from by simp only[dA,bB]]);rw[show(x18.2.2.1.length:Nat)=(x18.2.2.1.set (0:Int).toNat x27).length from by simp only[bB,aD,List.length_replicate]];exact SS bn q29:wP (.kU 2 (.c (.acc 2 0 2 x18.2.2.1.length true)) (.c (.int .i64 1)))=some (.ptr (some (2,0+(1:Int).toNat*2))))<|.st (some (aO ((x18.2.2.1.set (0:Int).toNat x27).set (1:Int).toNat jL)))<|.ob (by(try rw[show AV.list 2 x18.2.2.1.length (aO (x18.2.2.1.set (0:Int).toNat x27)) false=dA (x18.2.2.1.set (0:Int).toNat x27)from by simp only[dA,bB]]);exact CS (o:=0) bn q29 rfl:Wq (aO (x18.2.2.1.set (0:Int).toNat x27)) (0+(1:Int).toNat*2) [(.str jL.Key),(.str jL.Value)]=some (aO ((x18.2.2.1.set (0:Int).toNat x27).set (1:Int).toNat jL)))<|.st none<|.zN (.fin (some true) [.agg [.undef,.undef,.slice none 2 0 0 true,.slice none 4 0 0 true]] none) _ (λr=>@Eq AV (.agg [(.int .i64 x18.1),(.int .i64 x18.2.1),(.acc 0 0 2 x18.2.2.1.length true),(.acc 1 0 4 x18.2.2.2.length true)]) (iB k epoch l f_ r).1∧@Eq WH [(some (.cells (aO ((x18.2.2.1.set (0:Int).toNat x27).set (1:Int).toNat jL)) false true)),(some (.cells (aW x18.2.2.2) false true))] (iB k epoch l f_ r).2) (by show _∧_;(try rw[show AV.list 2 x18.2.2.1.length (aO (x18.2.2.1.set (0:Int).toNat x27)) false=dA (x18.2.2.1.set (0:Int).toNat x27)from by simp only[dA,bB]]);(try rw[show AV.list 2 x18.2.2.1.length (aO ((x18.2.2.1.set (0:Int).toNat x27).set (1:Int).toNat jL)) false=dA ((x18.2.2.1.set (0:Int).toNat x27).set (1:Int).toNat jL)from by simp only[dA,bB]]);refine⟨?_, ?_⟩<;>first | rfl |(simp only[iB,bB,aD,List.length_replicate,bA,bN,bf,aZ,Nat.add_zero,Nat.zero_add];done) | simp[iB])) λ_=>.st none<|Fn Tw [.agg [.undef,.undef,.slice none 2 0 0 true,.slice none 4 0 0 true]] none) λ_=>.br 109 (λ_=>.z 111 [.agg [.undef,.undef,.slice none 2 0 0 true,.slice none 4 0 0 true]]<|.st none<|.st none<|.zN (.fin (some true) [.agg [.undef,.undef,.slice none 2 0 0 true,.slice none 4 0 0 true]] none) _ (λr=>@Eq AV (.agg [(.int .i64 0),(.int .i64 0),(.acc 0 0 2 0 true),(.acc 1 0 4 0 true)]) (iB k epoch l f_ r).1∧@Eq WH [(some (.cells (aO []) false true)),(some (.cells (aW []) false true))] (iB k epoch l f_ r).2) (by show _∧_;refine⟨?_, ?_⟩<;>first | rfl |(simp only[iB,bB,aD,List.length_replicate,bA,bN,bf,aZ,Nat.add_zero,Nat.zero_add];done) | simp[iB])) λ_=>.st none<|Fn Tw [.agg [.undef,.undef,.slice none 2 0 0 true,.slice none 4 0 0 true]] none)
abbrev ahy(dZ:bJ)(bC:dh)(hosts:Int)(x1:Int)(x2:Int)(x3:Int)(x4:Int)(x5:Int)(x6:Int)(x7:Int)(x8:Int)(x9:Int)(x10:List UInt8)(dV:List aI):Fast×WH:=([(1,(.int .i64 hosts)),(2,(.ptr (some (0,0)))),(4,(.ptr (some (1,0)))),(5,(.ptr (some (2,0))))],[(some (.cells (fF bC) false false)),(some (.cells [(.int .i64 0),(.int .i64 0),(.int .i64 0),(.int .i64 0),(.int .i64 0),(.int .i64 0),(.int .i64 0),(.int .i64 0),(.bool false),(.int .i64 0),(.int .i64 0),(.int .i64 0),(.str ([]:List UInt8)),(.str ([]:List UInt8)),(.str ([]:List UInt8)),(.int .i64 0),(.str ([]:List UInt8)),(.slice none 1 0 0 true),(.slice none 5 0 0 true),(.int .i64 0),(.int .i64 0),(.slice none 2 0 0 true),(.slice none 4 0 0 true)] false false)),(some (.cells [(.int .i64 (IntKind.i64.wrap (1+x1))),(.int .i64 x2),(.int .i64 x3),(.int .i64 x4),(.int .i64 x5),(.int .i64 x6),(.int .i64 x7),(.int .i64 x8),(.bool bC.fq),(.int .i64 dZ.Client),(.int .i64 dZ.Seq),(.int .i64 dZ.Op.Kind),(.str dZ.Op.Key),(.str dZ.Op.Value),(.str dZ.Op.Old),(.int .i64 x9),(.str x10),(.slice none 1 0 0 true),(fK dV),(.int .i64 0),(.int .i64 0),(.slice none 2 0 0 true),(.slice none 4 0 0 true)] false false))])
def aeC(dZ:bJ)(bC:dh)(hosts:Int)(x1:Int)(x2:Int)(x3:Int)(x4:Int)(x5:Int)(x6:Int)(x7:Int)(x8:Int)(x9:Int)(x10:List UInt8)(dV:List aI):(Int×Int×Int×List UInt8×List UInt8×List UInt8)→Ex×Fast×WH:=λe=>(.normal,[(1,(.int .i64 hosts)),(2,(.ptr (some (0,0)))),(4,(.ptr (some (1,0)))),(5,(.ptr (some (2,0))))],[(some (.cells (fF bC) false false)),(some (.cells [(.int .i64 0),(.int .i64 0),(.int .i64 0),(.int .i64 0),(.int .i64 0),(.int .i64 0),(.int .i64 0),(.int .i64 0),(.bool false),(.int .i64 0),(.int .i64 0),(.int .i64 0),(.str ([]:List UInt8)),(.str ([]:List UInt8)),(.str ([]:List UInt8)),(.int .i64 0),(.str ([]:List UInt8)),(.slice none 1 0 0 true),(.slice none 5 0 0 true),(.int .i64 0),(.int .i64 0),(.slice none 2 0 0 true),(.slice none 4 0 0 true)] false false)),(some (.cells [(.int .i64 (IntKind.i64.wrap (1+x1))),(.int .i64 x2),(.int .i64 x3),(.int .i64 x4),(.int .i64 x5),(.int .i64 x6),(.int .i64 x7),(.int .i64 x8),(.bool bC.fq),(.int .i64 e.1),(.int .i64 e.2.1),(.int .i64 e.2.2.1),(.str e.2.2.2.1),(.str e.2.2.2.2.1),(.str e.2.2.2.2.2),(.int .i64 x9),(.str x10),(.slice none 1 0 0 true),(fK dV),(.int .i64 0),(.int .i64 0),(.slice none 2 0 0 true),(.slice none 4 0 0 true)] false false))])
def M9(dZ:bJ)(bC:dh)(hosts:Int)(x1:Int)(x2:Int)(x3:Int)(x4:Int)(x5:Int)(x6:Int)(x7:Int)(x8:Int)(x9:Int)(x10:List UInt8)(dV:List aI):Option ((Int×Int×Int×List UInt8×List UInt8×List UInt8)) :=
 (rW dZ).bind λ(rV:Bool)=>cond (!rV) ((b_ bC.vQ 5).bind λ(nO:Int)=>cond (decide (nO<4)) (some (0,0,0,([]:List UInt8),([]:List UInt8),([]:List UInt8))) (some (dZ.Client,dZ.Seq,dZ.Op.Kind,dZ.Op.Key,dZ.Op.Value,dZ.Op.Old))) (some (dZ.Client,dZ.Seq,dZ.Op.Kind,dZ.Op.Key,dZ.Op.Value,dZ.Op.Old))
theorem ajT(d:Nat){dZ:bJ}{bC:dh}{hosts:Int}{x1:Int}{x2:Int}{x3:Int}{x4:Int}{x5:Int}{x6:Int}{x7:Int}{x8:Int}{x9:Int}{x10:List UInt8}{dV:List aI}{r:(Int×Int×Int×List UInt8×List UInt8×List UInt8)}(h:M9 dZ bC hosts x1 x2 x3 x4 x5 x6 x7 x8 x9 x10 dV=some r):dx (bF (aQ aT (d+3)) KK 154 acF) 0 (ahy dZ bC hosts x1 x2 x3 x4 x5 x6 x7 x8 x9 x10 dV) (aeC dZ bC hosts x1 x2 x3 x4 x5 x6 x7 x8 x9 x10 dV r):=by
 unfold M9 at h
 exact bU nB Z6 h (.bd λrV YL=>jw (FM (d+0) YL)<|.br 55 (λ_=>.bd λnO PZ=>jw (dw (d+2) PZ)<|.br 60 (λ_=>.st none<|E0 [1,2,4,5]) λ_=>E0 [1,2,4,5]) λ_=>E0 [1,2,4,5])
abbrev ahz(xD:Int×List Int)(bC:dh)(hosts:Int)(x1:Int)(x2:Int)(x3:Int)(x4:Int)(x5:Int)(x6:Int)(x7:Int)(x8:Int)(dP:(Int×Int×Int×List UInt8×List UInt8×List UInt8))(x9:Int)(x10:List UInt8)(dV:List aI):Fast×WH:=([(1,(.int .i64 hosts)),(2,(.ptr (some (0,0)))),(4,(.ptr (some (1,0)))),(5,(.ptr (some (2,0)))),(6,(.int .i64 xD.1))],[(some (.cells (fF bC) false false)),(some (.cells [(.int .i64 0),(.int .i64 0),(.int .i64 0),(.int .i64 0),(.int .i64 0),(.int .i64 0),(.int .i64 0),(.int .i64 0),(.bool false),(.int .i64 0),(.int .i64 0),(.int .i64 0),(.str ([]:List UInt8)),(.str ([]:List UInt8)),(.str ([]:List UInt8)),(.int .i64 0),(.str ([]:List UInt8)),(.acc 3 0 1 0 true),(.acc 4 0 5 0 true),(.int .i64 0),(.int .i64 0),(.acc 5 0 2 0 true),(.acc 6 0 4 0 true)] false false)),(some (.cells [(.int .i64 (IntKind.i64.wrap (1+x1))),(.int .i64 x2),(.int .i64 x3),(.int .i64 x4),(.int .i64 x5),(.int .i64 x6),(.int .i64 x7),(.int .i64 x8),(.bool bC.fq),(.int .i64 dP.1),(.int .i64 dP.2.1),(.int .i64 dP.2.2.1),(.str dP.2.2.2.1),(.str dP.2.2.2.2.1),(.str dP.2.2.2.2.2),(.int .i64 x9),(.str x10),(.acc 7 0 1 xD.2.length true),(fK dV),(.int .i64 0),(.int .i64 0),(.acc 8 0 2 0 true),(.acc 9 0 4 0 true)] false false)),(some (.cells (uY []) false true)),(some (.cells (bP []) false true)),(some (.cells (aO []) false true)),(some (.cells (aW []) false true)),(some (.cells (uY xD.2) false true)),(some (.cells (aO []) false true)),(some (.cells (aW []) false true))])
def aeD(xD:Int×List Int)(bC:dh)(hosts:Int)(x1:Int)(x2:Int)(x3:Int)(x4:Int)(x5:Int)(x6:Int)(x7:Int)(x8:Int)(dP:(Int×Int×Int×List UInt8×List UInt8×List UInt8))(x9:Int)(x10:List UInt8)(dV:List aI):Unit⊕Unit→Ex×Fast×WH:=fun
 |.inl e=>(.normal,[(1,(.int .i64 hosts)),(2,(.ptr (some (0,0)))),(4,(.ptr (some (1,0)))),(5,(.ptr (some (2,0)))),(6,(.int .i64 xD.1))],[(some (.cells (fF bC) false false)),(some (.cells [(.int .i64 0),(.int .i64 0),(.int .i64 0),(.int .i64 0),(.int .i64 0),(.int .i64 0),(.int .i64 0),(.int .i64 0),(.bool false),(.int .i64 0),(.int .i64 0),(.int .i64 0),(.str ([]:List UInt8)),(.str ([]:List UInt8)),(.str ([]:List UInt8)),(.int .i64 0),(.str ([]:List UInt8)),(.acc 3 0 1 0 true),(.acc 4 0 5 0 true),(.int .i64 0),(.int .i64 0),(.acc 5 0 2 0 true),(.acc 6 0 4 0 true)] false false)),(some (.cells [(.int .i64 (IntKind.i64.wrap (1+x1))),(.int .i64 x2),(.int .i64 x3),(.int .i64 x4),(.int .i64 x5),(.int .i64 x6),(.int .i64 x7),(.int .i64 x8),(.bool bC.fq),(.int .i64 dP.1),(.int .i64 dP.2.1),(.int .i64 dP.2.2.1),(.str dP.2.2.2.1),(.str dP.2.2.2.2.1),(.str dP.2.2.2.2.2),(.int .i64 x9),(.str x10),(.acc 7 0 1 xD.2.length true),(fK dV),(.int .i64 0),(.int .i64 0),(.acc 8 0 2 0 true),(.acc 9 0 4 0 true)] false false)),(some (.cells (uY []) false true)),(some (.cells (bP []) false true)),(some (.cells (aO []) false true)),(some (.cells (aW []) false true)),(some (.cells (uY xD.2) false true)),(some (.cells (aO []) false true)),(some (.cells (aW []) false true))])
 |.inr e=>((.exit 0),[(2,(.ptr (some (0,0)))),(4,(.ptr (some (1,0)))),(5,(.ptr (some (2,0))))],[(some (.cells (fF bC) false false)),(some (.cells [(.int .i64 0),(.int .i64 0),(.int .i64 0),(.int .i64 0),(.int .i64 0),(.int .i64 0),(.int .i64 0),(.int .i64 0),(.bool false),(.int .i64 0),(.int .i64 0),(.int .i64 0),(.str ([]:List UInt8)),(.str ([]:List UInt8)),(.str ([]:List UInt8)),(.int .i64 0),(.str ([]:List UInt8)),(.acc 3 0 1 0 true),(.acc 4 0 5 0 true),(.int .i64 0),(.int .i64 0),(.acc 5 0 2 0 true),(.acc 6 0 4 0 true)] false false)),(some (.cells [(.int .i64 (IntKind.i64.wrap (1+x1))),(.int .i64 x2),(.int .i64 x3),(.int .i64 x4),(.int .i64 x5),(.int .i64 x6),(.int .i64 x7),(.int .i64 x8),(.bool bC.fq),(.int .i64 dP.1),(.int .i64 dP.2.1),(.int .i64 dP.2.2.1),(.str dP.2.2.2.1),(.str dP.2.2.2.2.1),(.str dP.2.2.2.2.2),(.int .i64 x9),(.str x10),(.acc 7 0 1 xD.2.length true),(fK dV),(.int .i64 0),(.int .i64 0),(.acc 8 0 2 0 true),(.acc 9 0 4 0 true)] false false)),(some (.cells (uY []) false true)),(some (.cells (bP []) false true)),(some (.cells (aO []) false true)),(some (.cells (aW []) false true)),(some (.cells (uY xD.2) false true)),(some (.cells (aO []) false true)),(some (.cells (aW []) false true))])
def SY(xD:Int×List Int)(bC:dh)(hosts:Int)(x1:Int)(x2:Int)(x3:Int)(x4:Int)(x5:Int)(x6:Int)(x7:Int)(x8:Int)(dP:(Int×Int×Int×List UInt8×List UInt8×List UInt8))(x9:Int)(x10:List UInt8)(dV:List aI):Option (Unit⊕Unit) :=
 cond (decide (xD.1<(bC.Path.length:Int))) (cond (decide (xD.1<5)) (some (.inl ())) (some (.inr ()))) (some (.inr ()))
theorem aaf(d:Nat){xD:Int×List Int}{bC:dh}{hosts:Int}{x1:Int}{x2:Int}{x3:Int}{x4:Int}{x5:Int}{x6:Int}{x7:Int}{x8:Int}{dP:(Int×Int×Int×List UInt8×List UInt8×List UInt8)}{x9:Int}{x10:List UInt8}{dV:List aI}{r:Unit⊕Unit}(h:SY xD bC hosts x1 x2 x3 x4 x5 x6 x7 x8 dP x9 x10 dV=some r):dx (bF (aQ aT (d+0)) KK 154 Li) 0 (ahz xD bC hosts x1 x2 x3 x4 x5 x6 x7 x8 dP x9 x10 dV) (aeD xD bC hosts x1 x2 x3 x4 x5 x6 x7 x8 dP x9 x10 dV r):=by
 unfold SY at h
 exact bU nB MH h (.br 68 (λ_=>.br 71 (λ_=>E0 [1,2,4,5,6]) λ_=>E0 [2,4,5]) λ_=>E0 [2,4,5])
def Hu(bC:dh)(hosts:Int)(x1:Int)(x2:Int)(x3:Int)(x4:Int)(x5:Int)(x6:Int)(x7:Int)(x8:Int)(dP:(Int×Int×Int×List UInt8×List UInt8×List UInt8))(x9:Int)(x10:List UInt8)(dV:List aI)(xD:Int×List Int):List AV×WH:=([(.int .i64 hosts),(.ptr (some (0,0))),(.ptr (some (1,0))),(.ptr (some (2,0))),(.int .i64 xD.1)],[(some (.cells (fF bC) false false)),(some (.cells [(.int .i64 0),(.int .i64 0),(.int .i64 0),(.int .i64 0),(.int .i64 0),(.int .i64 0),(.int .i64 0),(.int .i64 0),(.bool false),(.int .i64 0),(.int .i64 0),(.int .i64 0),(.str ([]:List UInt8)),(.str ([]:List UInt8)),(.str ([]:List UInt8)),(.int .i64 0),(.str ([]:List UInt8)),(.acc 3 0 1 0 true),(.acc 4 0 5 0 true),(.int .i64 0),(.int .i64 0),(.acc 5 0 2 0 true),(.acc 6 0 4 0 true)] false false)),(some (.cells [(.int .i64 (IntKind.i64.wrap (1+x1))),(.int .i64 x2),(.int .i64 x3),(.int .i64 x4),(.int .i64 x5),(.int .i64 x6),(.int .i64 x7),(.int .i64 x8),(.bool bC.fq),(.int .i64 dP.1),(.int .i64 dP.2.1),(.int .i64 dP.2.2.1),(.str dP.2.2.2.1),(.str dP.2.2.2.2.1),(.str dP.2.2.2.2.2),(.int .i64 x9),(.str x10),(.acc 7 0 1 xD.2.length true),(fK dV),(.int .i64 0),(.int .i64 0),(.acc 8 0 2 0 true),(.acc 9 0 4 0 true)] false false)),(some (.cells (uY []) false true)),(some (.cells (bP []) false true)),(some (.cells (aO []) false true)),(some (.cells (aW []) false true)),(some (.cells (uY xD.2) false true)),(some (.cells (aO []) false true)),(some (.cells (aW []) false true))])
def LP(bC:dh)(hosts:Int)(x1:Int)(x2:Int)(x3:Int)(x4:Int)(x5:Int)(x6:Int)(x7:Int)(x8:Int)(dP:(Int×Int×Int×List UInt8×List UInt8×List UInt8))(x9:Int)(x10:List UInt8)(dV:List aI):(List Int)→Ex×Fast×WH:=λe=>((.exit 0),[(2,(.ptr (some (0,0)))),(4,(.ptr (some (1,0)))),(5,(.ptr (some (2,0))))],[(some (.cells (fF bC) false false)),(some (.cells [(.int .i64 0),(.int .i64 0),(.int .i64 0),(.int .i64 0),(.int .i64 0),(.int .i64 0),(.int .i64 0),(.int .i64 0),(.bool false),(.int .i64 0),(.int .i64 0),(.int .i64 0),(.str ([]:List UInt8)),(.str ([]:List UInt8)),(.str ([]:List UInt8)),(.int .i64 0),(.str ([]:List UInt8)),(.acc 3 0 1 0 true),(.acc 4 0 5 0 true),(.int .i64 0),(.int .i64 0),(.acc 5 0 2 0 true),(.acc 6 0 4 0 true)] false false)),(some (.cells [(.int .i64 (IntKind.i64.wrap (1+x1))),(.int .i64 x2),(.int .i64 x3),(.int .i64 x4),(.int .i64 x5),(.int .i64 x6),(.int .i64 x7),(.int .i64 x8),(.bool bC.fq),(.int .i64 dP.1),(.int .i64 dP.2.1),(.int .i64 dP.2.2.1),(.str dP.2.2.2.1),(.str dP.2.2.2.2.1),(.str dP.2.2.2.2.2),(.int .i64 x9),(.str x10),(.acc 7 0 1 e.length true),(fK dV),(.int .i64 0),(.int .i64 0),(.acc 8 0 2 0 true),(.acc 9 0 4 0 true)] false false)),(some (.cells (uY []) false true)),(some (.cells (bP []) false true)),(some (.cells (aO []) false true)),(some (.cells (aW []) false true)),(some (.cells (uY e) false true)),(some (.cells (aO []) false true)),(some (.cells (aW []) false true))])
abbrev ahA(bC:dh)(hosts:Int)(x1:Int)(x2:Int)(x3:Int)(x4:Int)(x5:Int)(x6:Int)(x7:Int)(x8:Int)(dP:(Int×Int×Int×List UInt8×List UInt8×List UInt8))(x9:Int)(x10:List UInt8)(dV:List aI):=eF [1,2,4,5,6] (Hu bC hosts x1 x2 x3 x4 x5 x6 x7 x8 dP x9 x10 dV) (LP bC hosts x1 x2 x3 x4 x5 x6 x7 x8 dP x9 x10 dV)
def FT(bC:dh)(hosts:Int)(x1:Int)(x2:Int)(x3:Int)(x4:Int)(x5:Int)(x6:Int)(x7:Int)(x8:Int)(dP:(Int×Int×Int×List UInt8×List UInt8×List UInt8))(x9:Int)(x10:List UInt8)(dV:List aI)(xD:Int×List Int):Option ((Int×List Int)⊕((List Int))) :=
 (SY xD bC hosts x1 x2 x3 x4 x5 x6 x7 x8 dP x9 x10 dV).bind λ(x27:Unit⊕Unit)=>cond (jY x27) ((dH bC.Path xD.1).bind λ(x29:Int)=>(b_ x29 hosts).bind λ(x30:Int)=>gd (dR 8 (xD.2++[x30]).length) (some (.inl ((IntKind.i64.wrap (xD.1+1)),(xD.2++[x30]))))) (some (.inr xD.2))
def YR(bC:dh)(hosts:Int)(x1:Int)(x2:Int)(x3:Int)(x4:Int)(x5:Int)(x6:Int)(x7:Int)(x8:Int)(dP:(Int×Int×Int×List UInt8×List UInt8×List UInt8))(x9:Int)(x10:List UInt8)(dV:List aI)(xD:Int×List Int):Option ((List Int)):=dG (FT bC hosts x1 x2 x3 x4 x5 x6 x7 x8 dP x9 x10 dV) KK xD
theorem ajU(d:Nat){bC:dh}{hosts:Int}{x1:Int}{x2:Int}{x3:Int}{x4:Int}{x5:Int}{x6:Int}{x7:Int}{x8:Int}{dP:(Int×Int×Int×List UInt8×List UInt8×List UInt8)}{x9:Int}{x10:List UInt8}{dV:List aI}{xD:Int×List Int}{r:(Int×List Int)⊕((List Int))}(h:FT bC hosts x1 x2 x3 x4 x5 x6 x7 x8 dP x9 x10 dV xD=some r):dx (bF (aQ aT (d+1)) KK 154 aiY) 0 (jM [1,2,4,5,6] (Hu bC hosts x1 x2 x3 x4 x5 x6 x7 x8 dP x9 x10 dV xD)) (ahA bC hosts x1 x2 x3 x4 x5 x6 x7 x8 dP x9 x10 dV r):=by
 unfold FT at h
 exact bU nB aiZ h (.bd λx27 q27=>.ite (λamt=>Jn [1,2,4,5,6] [none,none,none,none,none] [] [] (kI (il amt) (aaf (d+1) q27))<|.bd λx29 q29=>Ix Lc 79 q29<|.bd λx30 q30=>jw (dw (d+0) q30)<|.gd λq31=>Ap Lc 84 q31<|.st none<|E0 [1,2,4,5,6]) λamt=>Jn [1,2,4,5,6] [none,none,none,none,none] [] [] (kI (Ai amt) (aaf (d+1) q27))<|E0 [2,4,5])
theorem ajV(d:Nat){bC:dh}{hosts:Int}{x1:Int}{x2:Int}{x3:Int}{x4:Int}{x5:Int}{x6:Int}{x7:Int}{x8:Int}{dP:(Int×Int×Int×List UInt8×List UInt8×List UInt8)}{x9:Int}{x10:List UInt8}{dV:List aI}{xD:Int×List Int}{r:(List Int)}(h:YR bC hosts x1 x2 x3 x4 x5 x6 x7 x8 dP x9 x10 dV xD=some r):dx (fQ (bF (aQ aT (d+1)) KK 154 aiY) [1,2,4,5,6] KK) 0 (jM [1,2,4,5,6] (Hu bC hosts x1 x2 x3 x4 x5 x6 x7 x8 dP x9 x10 dV xD)) (LP bC hosts x1 x2 x3 x4 x5 x6 x7 x8 dP x9 x10 dV r) :=
 dS (st:=Hu bC hosts x1 x2 x3 x4 x5 x6 x7 x8 dP x9 x10 dV) (fin:=LP bC hosts x1 x2 x3 x4 x5 x6 x7 x8 dP x9 x10 dV) (step:=FT bC hosts x1 x2 x3 x4 x5 x6 x7 x8 dP x9 x10 dV) (λe=>by(intro h;cases h)) (λs x h=>ajU d h) KK xD r h
abbrev ahB(x1:Int)(bC:dh)(x2:Int)(x3:Int)(x4:Int)(x5:Int)(x6:Int)(x7:Int)(x8:Int)(dP:(Int×Int×Int×List UInt8×List UInt8×List UInt8))(x9:Int)(x10:List UInt8)(x32:(List Int))(dV:List aI):Fast×WH:=([(2,(.ptr (some (0,0)))),(4,(.ptr (some (1,0)))),(5,(.ptr (some (2,0))))],[(some (.cells (fF bC) false false)),(some (.cells [(.int .i64 0),(.int .i64 0),(.int .i64 0),(.int .i64 0),(.int .i64 0),(.int .i64 0),(.int .i64 0),(.int .i64 0),(.bool false),(.int .i64 0),(.int .i64 0),(.int .i64 0),(.str ([]:List UInt8)),(.str ([]:List UInt8)),(.str ([]:List UInt8)),(.int .i64 0),(.str ([]:List UInt8)),(.acc 3 0 1 0 true),(.acc 4 0 5 0 true),(.int .i64 0),(.int .i64 0),(.acc 5 0 2 0 true),(.acc 6 0 4 0 true)] false false)),(some (.cells [(.int .i64 (IntKind.i64.wrap (1+x1))),(.int .i64 x2),(.int .i64 x3),(.int .i64 x4),(.int .i64 x5),(.int .i64 x6),(.int .i64 x7),(.int .i64 x8),(.bool bC.fq),(.int .i64 dP.1),(.int .i64 dP.2.1),(.int .i64 dP.2.2.1),(.str dP.2.2.2.1),(.str dP.2.2.2.2.1),(.str dP.2.2.2.2.2),(.int .i64 x9),(.str x10),(.acc 7 0 1 x32.length true),(fK dV),(.int .i64 0),(.int .i64 0),(.acc 8 0 2 0 true),(.acc 9 0 4 0 true)] false false)),(some (.cells (uY []) false true)),(some (.cells (bP []) false true)),(some (.cells (aO []) false true)),(some (.cells (aW []) false true)),(some (.cells (uY x32) false true)),(some (.cells (aO []) false true)),(some (.cells (aW []) false true))])
def aeE(x1:Int)(bC:dh)(x2:Int)(x3:Int)(x4:Int)(x5:Int)(x6:Int)(x7:Int)(x8:Int)(dP:(Int×Int×Int×List UInt8×List UInt8×List UInt8))(x9:Int)(x10:List UInt8)(x32:(List Int))(dV:List aI):Bool→Ex×Fast×WH:=λe=>(.normal,[(2,(.ptr (some (0,0)))),(4,(.ptr (some (1,0)))),(5,(.ptr (some (2,0)))),(94,(.bool e))],[(some (.cells (fF bC) false false)),(some (.cells [(.int .i64 0),(.int .i64 0),(.int .i64 0),(.int .i64 0),(.int .i64 0),(.int .i64 0),(.int .i64 0),(.int .i64 0),(.bool false),(.int .i64 0),(.int .i64 0),(.int .i64 0),(.str ([]:List UInt8)),(.str ([]:List UInt8)),(.str ([]:List UInt8)),(.int .i64 0),(.str ([]:List UInt8)),(.acc 3 0 1 0 true),(.acc 4 0 5 0 true),(.int .i64 0),(.int .i64 0),(.acc 5 0 2 0 true),(.acc 6 0 4 0 true)] false false)),(some (.cells [(.int .i64 (IntKind.i64.wrap (1+x1))),(.int .i64 x2),(.int .i64 x3),(.int .i64 x4),(.int .i64 x5),(.int .i64 x6),(.int .i64 x7),(.int .i64 x8),(.bool bC.fq),(.int .i64 dP.1),(.int .i64 dP.2.1),(.int .i64 dP.2.2.1),(.str dP.2.2.2.1),(.str dP.2.2.2.2.1),(.str dP.2.2.2.2.2),(.int .i64 x9),(.str x10),(.acc 7 0 1 x32.length true),(fK dV),(.int .i64 0),(.int .i64 0),(.acc 8 0 2 0 true),(.acc 9 0 4 0 true)] false false)),(some (.cells (uY []) false true)),(some (.cells (bP []) false true)),(some (.cells (aO []) false true)),(some (.cells (aW []) false true)),(some (.cells (uY x32) false true)),(some (.cells (aO []) false true)),(some (.cells (aW []) false true))])
def S9(x1:Int)(bC:dh)(x2:Int)(x3:Int)(x4:Int)(x5:Int)(x6:Int)(x7:Int)(x8:Int)(dP:(Int×Int×Int×List UInt8×List UInt8×List UInt8))(x9:Int)(x10:List UInt8)(x32:(List Int))(dV:List aI):Option (Bool) :=
 cond ((IntKind.i64.wrap (1+x1))==6) (some true) ((b_ bC.vQ 4).bind λ(x33:Int)=>some (x33==1))
theorem ajW(d:Nat){x1:Int}{bC:dh}{x2:Int}{x3:Int}{x4:Int}{x5:Int}{x6:Int}{x7:Int}{x8:Int}{dP:(Int×Int×Int×List UInt8×List UInt8×List UInt8)}{x9:Int}{x10:List UInt8}{x32:(List Int)}{dV:List aI}{r:Bool}(h:S9 x1 bC x2 x3 x4 x5 x6 x7 x8 dP x9 x10 x32 dV=some r):dx (bF (aQ aT (d+1)) KK 154 QH) 0 (ahB x1 bC x2 x3 x4 x5 x6 x7 x8 dP x9 x10 x32 dV) (aeE x1 bC x2 x3 x4 x5 x6 x7 x8 dP x9 x10 x32 dV r):=by
 unfold S9 at h
 exact bU nB QI h (.br 89 (λ_=>E0 [2,4,5,94]) λ_=>.bd λx33 q33=>jw (dw (d+0) q33)<|E0 [2,4,5,94])
abbrev ahC(x1:Int)(bC:dh)(x2:Int)(x3:Int)(x4:Int)(x5:Int)(x6:Int)(x7:Int)(x8:Int)(dP:(Int×Int×Int×List UInt8×List UInt8×List UInt8))(x9:Int)(x10:List UInt8)(x32:(List Int))(dV:List aI):Fast×WH:=([(2,(.ptr (some (0,0)))),(4,(.ptr (some (1,0)))),(5,(.ptr (some (2,0))))],[(some (.cells (fF bC) false false)),(some (.cells [(.int .i64 0),(.int .i64 0),(.int .i64 0),(.int .i64 0),(.int .i64 0),(.int .i64 0),(.int .i64 0),(.int .i64 0),(.bool false),(.int .i64 0),(.int .i64 0),(.int .i64 0),(.str ([]:List UInt8)),(.str ([]:List UInt8)),(.str ([]:List UInt8)),(.int .i64 0),(.str ([]:List UInt8)),(.acc 3 0 1 0 true),(.acc 4 0 5 0 true),(.int .i64 0),(.int .i64 0),(.acc 5 0 2 0 true),(.acc 6 0 4 0 true)] false false)),(some (.cells [(.int .i64 (IntKind.i64.wrap (1+x1))),(.int .i64 x2),(.int .i64 x3),(.int .i64 x4),(.int .i64 x5),(.int .i64 x6),(.int .i64 x7),(.int .i64 x8),(.bool bC.fq),(.int .i64 dP.1),(.int .i64 dP.2.1),(.int .i64 dP.2.2.1),(.str dP.2.2.2.1),(.str dP.2.2.2.2.1),(.str dP.2.2.2.2.2),(.int .i64 x9),(.str x10),(.acc 7 0 1 x32.length true),(fK dV),(.int .i64 0),(.int .i64 0),(.acc 8 0 2 0 true),(.acc 9 0 4 0 true)] false false)),(some (.cells (uY []) false true)),(some (.cells (bP []) false true)),(some (.cells (aO []) false true)),(some (.cells (aW []) false true)),(some (.cells (uY x32) false true)),(some (.cells (aO []) false true)),(some (.cells (aW []) false true))])
def aeF(x1:Int)(bC:dh)(x2:Int)(x3:Int)(x4:Int)(x5:Int)(x6:Int)(x7:Int)(x8:Int)(dP:(Int×Int×Int×List UInt8×List UInt8×List UInt8))(x9:Int)(x10:List UInt8)(x32:(List Int))(dV:List aI):(Int×Int×List aF×List aB)→Ex×Fast×WH:=λe=>(.normal,[(2,(.ptr (some (0,0)))),(4,(.ptr (some (1,0)))),(5,(.ptr (some (2,0))))],[(some (.cells (fF bC) false false)),(some (.cells [(.int .i64 0),(.int .i64 0),(.int .i64 0),(.int .i64 0),(.int .i64 0),(.int .i64 0),(.int .i64 0),(.int .i64 0),(.bool false),(.int .i64 0),(.int .i64 0),(.int .i64 0),(.str ([]:List UInt8)),(.str ([]:List UInt8)),(.str ([]:List UInt8)),(.int .i64 0),(.str ([]:List UInt8)),(.acc 3 0 1 0 true),(.acc 4 0 5 0 true),(.int .i64 0),(.int .i64 0),(.acc 5 0 2 0 true),(.acc 6 0 4 0 true)] false false)),(some (.cells [(.int .i64 (IntKind.i64.wrap (1+x1))),(.int .i64 x2),(.int .i64 x3),(.int .i64 x4),(.int .i64 x5),(.int .i64 x6),(.int .i64 x7),(.int .i64 x8),(.bool bC.fq),(.int .i64 dP.1),(.int .i64 dP.2.1),(.int .i64 dP.2.2.1),(.str dP.2.2.2.1),(.str dP.2.2.2.2.1),(.str dP.2.2.2.2.2),(.int .i64 x9),(.str x10),(.acc 7 0 1 x32.length true),(fK dV),(.int .i64 e.1),(.int .i64 e.2.1),(.acc 8 0 2 e.2.2.1.length true),(.acc 9 0 4 e.2.2.2.length true)] false false)),(some (.cells (uY []) false true)),(some (.cells (bP []) false true)),(some (.cells (aO []) false true)),(some (.cells (aW []) false true)),(some (.cells (uY x32) false true)),(some (.cells (aO e.2.2.1) false true)),(some (.cells (aW e.2.2.2) false true))])
def M_(x1:Int)(bC:dh)(x2:Int)(x3:Int)(x4:Int)(x5:Int)(x6:Int)(x7:Int)(x8:Int)(dP:(Int×Int×Int×List UInt8×List UInt8×List UInt8))(x9:Int)(x10:List UInt8)(x32:(List Int))(dV:List aI):Option ((Int×Int×List aF×List aB)) :=
 (S9 x1 bC x2 x3 x4 x5 x6 x7 x8 dP x9 x10 x32 dV).bind λ(x34:Bool)=>cond x34 ((BA bC.fJ bC.Epoch bC.Ops 0).bind λ(x35:Int×Int×List aF×List aB)=>some (x35.1,x35.2.1,x35.2.2.1,x35.2.2.2)) (some (0,0,[],[]))
theorem ajX(d:Nat){x1:Int}{bC:dh}{x2:Int}{x3:Int}{x4:Int}{x5:Int}{x6:Int}{x7:Int}{x8:Int}{dP:(Int×Int×Int×List UInt8×List UInt8×List UInt8)}{x9:Int}{x10:List UInt8}{x32:(List Int)}{dV:List aI}{r:(Int×Int×List aF×List aB)}(h:M_ x1 bC x2 x3 x4 x5 x6 x7 x8 dP x9 x10 x32 dV=some r):dx (bF (aQ aT (d+5)) KK 154 U8) 0 (ahC x1 bC x2 x3 x4 x5 x6 x7 x8 dP x9 x10 x32 dV) (aeF x1 bC x2 x3 x4 x5 x6 x7 x8 dP x9 x10 x32 dV r):=by
 unfold M_ at h
 exact bU nB Ui h (.bd λx34 q34=>Jn [2,4,5] [none,none,none] [] [] (ajW (d+4) q34)<|.br 94 (λ_=>.bd λx35 q35=>Cl [Fo,Fo,Fo,Fo] none [.undef,.undef,.slice none 8 0 0 true] (Oo (d+0) q35)<|.st none<|E0 [2,4,5]) λ_=>E0 [2,4,5])
def adg(bC:dh)(hosts:Int):Option (aG) :=
 (b_ bC.Kind 10).bind λ(x1:Int)=>(b_ bC.From hosts).bind λ(x2:Int)=>(b_ bC.To hosts).bind λ(x3:Int)=>(b_ bC.fJ 6).bind λ(x4:Int)=>(b_ bC.Epoch 6).bind λ(x5:Int)=>(b_ bC.Weight 9).bind λ(x6:Int)=>(b_ bC.Load 20).bind λ(x7:Int)=>(b_ bC.ou 4).bind λ(x8:Int)=>(b_ bC.Why 12).bind λ(x9:Int)=>(Ak bC.Why).bind λ(x10:List UInt8)=>(QO bC.Table 5).bind λ(dV:List aI)=>(Ll bC.Op).bind λ(dZ:bJ)=>(M9 dZ bC hosts x1 x2 x3 x4 x5 x6 x7 x8 x9 x10 dV).bind λ(dP:(Int×Int×Int×List UInt8×List UInt8×List UInt8))=>(YR bC hosts x1 x2 x3 x4 x5 x6 x7 x8 dP x9 x10 dV (0,[])).bind λ(x32:(List Int))=>(M_ x1 bC x2 x3 x4 x5 x6 x7 x8 dP x9 x10 x32 dV).bind λ(Eh:(Int×Int×List aF×List aB))=>(b_ bC.vQ 22).bind λ(Xb:Int)=>cond (Xb==16) ((CY bC.ou).bind λ(x38:Int)=>some (⟨(IntKind.i64.wrap (1+x1)),x2,x3,x4,x5,x6,x7,x38,bC.fq,(⟨dP.1,dP.2.1,(⟨dP.2.2.1,dP.2.2.2.1,dP.2.2.2.2.1,dP.2.2.2.2.2⟩:bZ)⟩:bJ),(⟨x9,x10⟩:aJ),x32,dV,(⟨Eh.1,Eh.2.1,Eh.2.2.1,Eh.2.2.2⟩:aM)⟩:aG)) (cond (Xb==17) ((CY bC.From).bind λ(x39:Int)=>some (⟨(IntKind.i64.wrap (1+x1)),x39,x3,x4,x5,x6,x7,x8,bC.fq,(⟨dP.1,dP.2.1,(⟨dP.2.2.1,dP.2.2.2.1,dP.2.2.2.2.1,dP.2.2.2.2.2⟩:bZ)⟩:bJ),(⟨x9,x10⟩:aJ),x32,dV,(⟨Eh.1,Eh.2.1,Eh.2.2.1,Eh.2.2.2⟩:aM)⟩:aG)) (cond (Xb==18) ((b_ bC.Kind 14).bind λ(x40:Int)=>some (⟨(IntKind.i64.wrap (x40-1)),x2,x3,x4,x5,x6,x7,x8,bC.fq,(⟨dP.1,dP.2.1,(⟨dP.2.2.1,dP.2.2.2.1,dP.2.2.2.2.1,dP.2.2.2.2.2⟩:bZ)⟩:bJ),(⟨x9,x10⟩:aJ),x32,dV,(⟨Eh.1,Eh.2.1,Eh.2.2.1,Eh.2.2.2⟩:aM)⟩:aG)) (cond (Xb==19) ((Rb bC.fJ bC.Epoch bC.Ops (IntKind.i64.wrap (Int.tdiv bC.vQ 22))).bind λ(x41:aM)=>some (⟨(IntKind.i64.wrap (1+x1)),x2,x3,x4,x5,x6,x7,x8,bC.fq,(⟨dP.1,dP.2.1,(⟨dP.2.2.1,dP.2.2.2.1,dP.2.2.2.2.1,dP.2.2.2.2.2⟩:bZ)⟩:bJ),(⟨x9,x10⟩:aJ),x32,dV,x41⟩:aG)) (cond (Xb==20) ((b_ bC.Why 15).bind λ(x42:Int)=>some (⟨(IntKind.i64.wrap (1+x1)),x2,x3,x4,x5,x6,x7,x8,bC.fq,(⟨dP.1,dP.2.1,(⟨dP.2.2.1,dP.2.2.2.1,dP.2.2.2.2.1,dP.2.2.2.2.2⟩:bZ)⟩:bJ),(⟨(IntKind.i64.wrap (x42-2)),x10⟩:aJ),x32,dV,(⟨Eh.1,Eh.2.1,Eh.2.2.1,Eh.2.2.2⟩:aM)⟩:aG)) (cond (Xb==21) (gd (dR 8 (x32++[1,2,3,4,5,6]).length) (some (⟨(IntKind.i64.wrap (1+x1)),x2,x3,x4,x5,x6,x7,x8,bC.fq,(⟨dP.1,dP.2.1,(⟨dP.2.2.1,dP.2.2.2.1,dP.2.2.2.2.1,dP.2.2.2.2.2⟩:bZ)⟩:bJ),(⟨x9,x10⟩:aJ),(x32++[1,2,3,4,5,6]),dV,(⟨Eh.1,Eh.2.1,Eh.2.2.1,Eh.2.2.2⟩:aM)⟩:aG))) (some (⟨(IntKind.i64.wrap (1+x1)),x2,x3,x4,x5,x6,x7,x8,bC.fq,(⟨dP.1,dP.2.1,(⟨dP.2.2.1,dP.2.2.2.1,dP.2.2.2.2.1,dP.2.2.2.2.2⟩:bZ)⟩:bJ),(⟨x9,x10⟩:aJ),x32,dV,(⟨Eh.1,Eh.2.1,Eh.2.2.1,Eh.2.2.2⟩:aM)⟩:aG)))))))
def adh(bC:dh)(hosts:Int)(r:aG):AV×WH:=((.agg (dI r)),[])
theorem atO(d:Nat){bC:dh}{hosts:Int}{r:aG}(h:adg bC hosts=some r):Spec (aQ aT (d+6)) 8 [(.agg (fF bC)),(.int .i64 hosts)] [] (adh bC hosts r).1 (adh bC hosts r).2:=by
 unfold adg at h
 exact bK nB AF8 h (.z 4 [.undef,.undef,.undef,.undef,.undef,.undef,.undef,.undef,.undef,.undef,.undef,.undef,.undef,.undef,.undef,.undef,.undef,.slice none 1 0 0 true,.slice none 5 0 0 true,.undef,.undef,.slice none 2 0 0 true,.slice none 4 0 0 true]<|.bd λx1 q1=>jw (dw (d+4) q1)<|.bd λx2 q2=>jw (dw (d+4) q2)<|.bd λx3 q3=>jw (dw (d+4) q3)<|.bd λx4 q4=>jw (dw (d+4) q4)<|.bd λx5 q5=>jw (dw (d+4) q5)<|.bd λx6 q6=>jw (dw (d+4) q6)<|.bd λx7 q7=>jw (dw (d+4) q7)<|.bd λx8 q8=>jw (dw (d+4) q8)<|.bd λx9 q9=>jw (dw (d+4) q9)<|.bd λx10 MG=>jw (Oj (d+3) MG)<|.er<|.ob (rfl:@Eq (Option AV) (some (bV bC.Table)) (some (bV bC.Table)))<|.ob (rfl:@Eq (Option AV) (some (bV bC.Table)) (some (bV bC.Table)))<|.ob (rfl:@Eq (Option AV) (some (bV bC.Table)) (some (bV bC.Table)))<|.ob (rfl:@Eq (Option AV) (some (bV bC.Table)) (some (bV bC.Table)))<|.ob (rfl:@Eq (Option AV) (some (bV bC.Table)) (some (bV bC.Table)))<|.ob (rfl:@Eq (Option AV) (some (bV bC.Table)) (some (bV bC.Table)))<|.ob (rfl:@Eq (Option AV) (some (bV bC.Table)) (some (bV bC.Table)))<|.ob (rfl:@Eq (Option AV) (some (bV bC.Table)) (some (bV bC.Table)))<|.ob (rfl:@Eq (Option AV) (some (bV bC.Table)) (some (bV bC.Table)))<|.ob (rfl:@Eq (Option AV) (some (bV bC.Table)) (some (bV bC.Table)))<|.bd λdV J5=>Cl [] Fo [.slice none 5 0 0 true] (amo (d+0) J5)<|.z 46 [.agg [.undef,.undef,.undef,.undef,.undef,.undef,.undef,.undef,.undef,.undef,.undef,.undef,.undef,.undef,.undef,.undef,.undef,.slice none 1 0 0 true,.slice none 5 0 0 true,.undef,.undef,.slice none 2 0 0 true,.slice none 4 0 0 true]]<|.z 5 [.undef,.undef,.undef,.undef,.undef,.undef,.undef,.undef,.undef,.undef,.undef,.undef,.undef,.undef,.undef,.undef,.undef,.slice none 1 0 0 true,.slice none 5 0 0 true,.undef,.undef,.slice none 2 0 0 true,.slice none 4 0 0 true]<|.st none<|.bd λdZ MO=>jw (WY (d+1) MO)<|.st none<|.bd λdP Md=>Jn [1,2,4,5] [none,none,none,none] [] [] (ajT (d+2) Md)<|.bd λx32 q32=>Lp [none,none,none,none,none] [Tw,Tw,Tw,Tw,Tw,Tw,Tw,Tw,Tw,Tw] [] (ajV (d+4) q32)<|.bd λEh q36=>Jn [2,4,5] [none,none,none] [] [] (ajX (d+0) q36)<|.bd λXb q37=>jw (dw (d+4) q37)<|.br 106 (λ_=>.bd λx38 q38=>jw (Al (d+3) q38)<|.st none<|.st none<|Fn Fo [.agg [.undef,.undef,.undef,.undef,.undef,.undef,.undef,.undef,.undef,.undef,.undef,.undef,.undef,.undef,.undef,.undef,.undef,.slice none 1 0 0 true,.slice none 5 0 0 true,.undef,.undef,.slice none 2 0 0 true,.slice none 4 0 0 true]] none) λ_=>.br 112 (λ_=>.bd λx39 q39=>jw (Al (d+3) q39)<|.st none<|.st none<|Fn Fo [.agg [.undef,.undef,.undef,.undef,.undef,.undef,.undef,.undef,.undef,.undef,.undef,.undef,.undef,.undef,.undef,.undef,.undef,.slice none 1 0 0 true,.slice none 5 0 0 true,.undef,.undef,.slice none 2 0 0 true,.slice none 4 0 0 true]] none) λ_=>.br 118 (λ_=>.bd λx40 q40=>jw (dw (d+4) q40)<|.st none<|.st none<|Fn Fo [.agg [.undef,.undef,.undef,.undef,.undef,.undef,.undef,.undef,.undef,.undef,.undef,.undef,.undef,.undef,.undef,.undef,.undef,.slice none 1 0 0 true,.slice none 5 0 0 true,.undef,.undef,.slice none 2 0 0 true,.slice none 4 0 0 true]] none) λ_=>.br 125 (λ_=>.bd λx41 q41=>Cl [] Fo [.undef,.undef,.slice none 8 0 0 true] (ams (d+0) q41)<|.st none<|.st none<|Fn Fo [.agg [.undef,.undef,.undef,.undef,.undef,.undef,.undef,.undef,.undef,.undef,.undef,.undef,.undef,.undef,.undef,.undef,.undef,.slice none 1 0 0 true,.slice none 5 0 0 true,.undef,.undef,.slice none 2 0 0 true,.slice none 4 0 0 true]] none) λ_=>.br 138 (λ_=>.bd λx42 q42=>jw (dw (d+4) q42)<|.st none<|.st none<|Fn Fo [.agg [.undef,.undef,.undef,.undef,.undef,.undef,.undef,.undef,.undef,.undef,.undef,.undef,.undef,.undef,.undef,.undef,.undef,.slice none 1 0 0 true,.slice none 5 0 0 true,.undef,.undef,.slice none 2 0 0 true,.slice none 4 0 0 true]] none) λ_=>.br 146 (λ_=>.gd λq43=>Ap Lc 151 q43<|.st none<|.st none<|Fn Fo [.agg [.undef,.undef,.undef,.undef,.undef,.undef,.undef,.undef,.undef,.undef,.undef,.undef,.undef,.undef,.undef,.undef,.undef,.slice none 1 0 0 true,.slice none 5 0 0 true,.undef,.undef,.slice none 2 0 0 true,.slice none 4 0 0 true]] none) λ_=>.st none<|Fn Fo [.agg [.undef,.undef,.undef,.undef,.undef,.undef,.undef,.undef,.undef,.undef,.undef,.undef,.undef,.undef,.undef,.undef,.undef,.slice none 1 0 0 true,.slice none 5 0 0 true,.undef,.undef,.slice none 2 0 0 true,.slice none 4 0 0 true]] none)
abbrev YS(s11:Int×List aI)(l:List dJ)(n:Int):Fast×WH:=([(0,(bV l)),(1,(.int .i64 n)),(5,(.acc 0 0 5 s11.2.length true)),(6,(.int .i64 s11.1))],[(some (.cells (bP s11.2) false true))])
def Xc(s11:Int×List aI)(l:List dJ)(n:Int):Unit⊕Unit→Ex×Fast×WH:=fun
 |.inl e=>(.normal,[(0,(bV l)),(1,(.int .i64 n)),(5,(.acc 0 0 5 s11.2.length true)),(6,(.int .i64 s11.1))],[(some (.cells (bP s11.2) false true))])
 |.inr e=>((.exit 0),[(5,(.acc 0 0 5 s11.2.length true))],[(some (.cells (bP s11.2) false true))])
def LQ(s11:Int×List aI)(l:List dJ)(n:Int):Option (Unit⊕Unit) :=
 cond (decide (s11.1<(l.length:Int))) (cond (decide (s11.1<n)) (some (.inl ())) (some (.inr ()))) (some (.inr ()))
theorem O_(d:Nat){s11:Int×List aI}{l:List dJ}{n:Int}{r:Unit⊕Unit}(h:LQ s11 l n=some r):dx (bF (aQ aT (d+0)) KK 27 Oh) 0 (YS s11 l n) (Xc s11 l n r):=by
 unfold LQ at h
 exact bU nB O5 h (.br 11 (λ_=>.br 15 (λ_=>E1 [0,1,5,6] [none,none,none,none] [] [.slice none 5 0 0 true,.undef,.slice none 5 0 0 true,.undef]) λ_=>E1 [5] [none] [] [.slice none 5 0 0 true]) λ_=>E1 [5] [none] [] [.slice none 5 0 0 true])
def zl(l:List dJ)(n:Int)(s11:Int×List aI):List AV×WH:=([(bV l),(.int .i64 n),(.acc 0 0 5 s11.2.length true),(.int .i64 s11.1)],[(some (.cells (bP s11.2) false true))])
def Dg(l:List dJ)(n:Int):(List aI)→Ex×Fast×WH:=λe=>((.exit 0),[(5,(.acc 0 0 5 e.length true))],[(some (.cells (bP e) false true))])
abbrev YT(l:List dJ)(n:Int):=eF [0,1,5,6] (zl l n) (Dg l n)
def A_(l:List dJ)(n:Int)(s11:Int×List aI):Option ((Int×List aI)⊕((List aI))) :=
 (LQ s11 l n).bind λ(dZ:Unit⊕Unit)=>cond (jY dZ) ((dH l s11.1).bind λ(nO:dJ)=>(MN nO).bind λ(dP:aI)=>gd (dR 40 (s11.2++[dP]).length) (some (.inl ((IntKind.i64.wrap (s11.1+1)),(s11.2++[dP]))))) (some (.inr s11.2))
def Us(l:List dJ)(n:Int)(s11:Int×List aI):Option ((List aI)):=dG (A_ l n) KK s11
theorem aaN(d:Nat){l:List dJ}{n:Int}{s11:Int×List aI}{r:(Int×List aI)⊕((List aI))}(h:A_ l n s11=some r):dx (bF (aQ aT (d+4)) KK 27 acL) 0 (jM [0,1,5,6] (zl l n s11)) (YT l n r):=by
 unfold A_ at h
 exact bU nB afM h (.bd λdZ MO=>.ite (λVb=>Jn [0,1,5,6] [none,none,none,none] [] [.slice none 5 0 0 true,.undef,.slice none 5 0 0 true,.undef] (kI (il Vb) (O_ (d+4) MO))<|.bd λnO PZ=>Ix Lh 21 PZ<|.bd λdP Md=>jw (ac5 (d+0) Md)<|.gd λq16=>Ap lX 25 q16<|E1 [0,1,5,6] [none,none,none,none] [] [.slice none 5 0 0 true,.undef,.slice none 5 0 0 true,.undef]) λVb=>Jn [0,1,5,6] [none,none,none,none] [] [.slice none 5 0 0 true,.undef,.slice none 5 0 0 true,.undef] (kI (Ai Vb) (O_ (d+4) MO))<|E1 [5] [none] [] [.slice none 5 0 0 true])
theorem aaO(d:Nat){l:List dJ}{n:Int}{s11:Int×List aI}{r:(List aI)}(h:Us l n s11=some r):dx (fQ (bF (aQ aT (d+4)) KK 27 acL) [0,1,5,6] KK) 0 (jM [0,1,5,6] (zl l n s11)) (Dg l n r) :=
 dS (st:=zl l n) (fin:=Dg l n) (step:=A_ l n) (λe=>by(intro h;cases h)) (λs x h=>aaN d h) KK s11 r h
def Vi(l:List dJ)(n:Int):Option (List aI) :=
 (Us l n (0,[])).bind λ(kJ:(List aI))=>some kJ
def Rc(l:List dJ)(n:Int)(r:List aI):AV×WH:=((.acc 0 0 5 r.length true),[(some (.cells (bP r) false true))])
theorem ahD(d:Nat){l:List dJ}{n:Int}{r:List aI}(h:Vi l n=some r):Spec (aQ aT (d+5)) 33 [(bV l),(.int .i64 n)] [] (Rc l n r).1 (Rc l n r).2:=by
 unfold Vi at h
 exact bK nB aAM h (.z 4 [.slice none 5 0 0 true]<|.z 5 [.slice none 5 0 0 true]<|.bd λkJ J4=>Lp [none,none,Tw,none] [] [.slice none 5 0 0 true,.undef,.slice none 5 0 0 true,.undef] (aaO (d+0) J4)<|Fn none [.slice none 5 0 0 true] none)
abbrev adi(dZ:bJ)(bC:dh)(hosts:Int)(x1:Int)(x2:Int)(x3:Int)(x4:Int)(x5:Int)(x6:Int)(x7:Int)(x8:Int)(x9:Int)(x10:List UInt8)(dV:List aI):Fast×WH:=([(1,(.int .i64 hosts)),(2,(.ptr (some (0,0)))),(4,(.ptr (some (1,0)))),(5,(.ptr (some (2,0))))],[(some (.cells (fF bC) false false)),(some (.cells [(.int .i64 0),(.int .i64 0),(.int .i64 0),(.int .i64 0),(.int .i64 0),(.int .i64 0),(.int .i64 0),(.int .i64 0),(.bool false),(.int .i64 0),(.int .i64 0),(.int .i64 0),(.str ([]:List UInt8)),(.str ([]:List UInt8)),(.str ([]:List UInt8)),(.int .i64 0),(.str ([]:List UInt8)),(.slice none 1 0 0 true),(.slice none 5 0 0 true),(.int .i64 0),(.int .i64 0),(.slice none 2 0 0 true),(.slice none 4 0 0 true)] false false)),(some (.cells [(.int .i64 (IntKind.i64.wrap (1+x1))),(.int .i64 x2),(.int .i64 x3),(.int .i64 x4),(.int .i64 x5),(.int .i64 x6),(.int .i64 x7),(.int .i64 x8),(.bool bC.fq),(.int .i64 dZ.Client),(.int .i64 dZ.Seq),(.int .i64 dZ.Op.Kind),(.str dZ.Op.Key),(.str dZ.Op.Value),(.str dZ.Op.Old),(.int .i64 x9),(.str x10),(.slice none 1 0 0 true),(.acc 3 0 5 dV.length true),(.int .i64 0),(.int .i64 0),(.slice none 2 0 0 true),(.slice none 4 0 0 true)] false false)),(some (.cells (bP dV) false true))])
def aaP(dZ:bJ)(bC:dh)(hosts:Int)(x1:Int)(x2:Int)(x3:Int)(x4:Int)(x5:Int)(x6:Int)(x7:Int)(x8:Int)(x9:Int)(x10:List UInt8)(dV:List aI):(Int×Int×Int×List UInt8×List UInt8×List UInt8)→Ex×Fast×WH:=λe=>(.normal,[(1,(.int .i64 hosts)),(2,(.ptr (some (0,0)))),(4,(.ptr (some (1,0)))),(5,(.ptr (some (2,0))))],[(some (.cells (fF bC) false false)),(some (.cells [(.int .i64 0),(.int .i64 0),(.int .i64 0),(.int .i64 0),(.int .i64 0),(.int .i64 0),(.int .i64 0),(.int .i64 0),(.bool false),(.int .i64 0),(.int .i64 0),(.int .i64 0),(.str ([]:List UInt8)),(.str ([]:List UInt8)),(.str ([]:List UInt8)),(.int .i64 0),(.str ([]:List UInt8)),(.slice none 1 0 0 true),(.slice none 5 0 0 true),(.int .i64 0),(.int .i64 0),(.slice none 2 0 0 true),(.slice none 4 0 0 true)] false false)),(some (.cells [(.int .i64 (IntKind.i64.wrap (1+x1))),(.int .i64 x2),(.int .i64 x3),(.int .i64 x4),(.int .i64 x5),(.int .i64 x6),(.int .i64 x7),(.int .i64 x8),(.bool bC.fq),(.int .i64 e.1),(.int .i64 e.2.1),(.int .i64 e.2.2.1),(.str e.2.2.2.1),(.str e.2.2.2.2.1),(.str e.2.2.2.2.2),(.int .i64 x9),(.str x10),(.slice none 1 0 0 true),(.acc 3 0 5 dV.length true),(.int .i64 0),(.int .i64 0),(.slice none 2 0 0 true),(.slice none 4 0 0 true)] false false)),(some (.cells (bP dV) false true))])
def Rf(dZ:bJ)(bC:dh)(hosts:Int)(x1:Int)(x2:Int)(x3:Int)(x4:Int)(x5:Int)(x6:Int)(x7:Int)(x8:Int)(x9:Int)(x10:List UInt8)(dV:List aI):Option ((Int×Int×Int×List UInt8×List UInt8×List UInt8)) :=
 (rW dZ).bind λ(rV:Bool)=>cond (!rV) ((b_ bC.vQ 5).bind λ(nO:Int)=>cond (decide (nO<4)) (some (0,0,0,([]:List UInt8),([]:List UInt8),([]:List UInt8))) (some (dZ.Client,dZ.Seq,dZ.Op.Kind,dZ.Op.Key,dZ.Op.Value,dZ.Op.Old))) (some (dZ.Client,dZ.Seq,dZ.Op.Kind,dZ.Op.Key,dZ.Op.Value,dZ.Op.Old))
theorem aeG(d:Nat){dZ:bJ}{bC:dh}{hosts:Int}{x1:Int}{x2:Int}{x3:Int}{x4:Int}{x5:Int}{x6:Int}{x7:Int}{x8:Int}{x9:Int}{x10:List UInt8}{dV:List aI}{r:(Int×Int×Int×List UInt8×List UInt8×List UInt8)}(h:Rf dZ bC hosts x1 x2 x3 x4 x5 x6 x7 x8 x9 x10 dV=some r):dx (bF (aQ aT (d+3)) KK 154 acF) 0 (adi dZ bC hosts x1 x2 x3 x4 x5 x6 x7 x8 x9 x10 dV) (aaP dZ bC hosts x1 x2 x3 x4 x5 x6 x7 x8 x9 x10 dV r):=by
 unfold Rf at h
 exact bU nB Z6 h (.bd λrV YL=>jw (FM (d+0) YL)<|.br 55 (λ_=>.bd λnO PZ=>jw (dw (d+2) PZ)<|.br 60 (λ_=>.st none<|E0 [1,2,4,5]) λ_=>E0 [1,2,4,5]) λ_=>E0 [1,2,4,5])
abbrev adj(xD:Int×List Int)(bC:dh)(hosts:Int)(x1:Int)(x2:Int)(x3:Int)(x4:Int)(x5:Int)(x6:Int)(x7:Int)(x8:Int)(dP:(Int×Int×Int×List UInt8×List UInt8×List UInt8))(x9:Int)(x10:List UInt8)(dV:List aI):Fast×WH:=([(1,(.int .i64 hosts)),(2,(.ptr (some (0,0)))),(4,(.ptr (some (1,0)))),(5,(.ptr (some (2,0)))),(6,(.int .i64 xD.1))],[(some (.cells (fF bC) false false)),(some (.cells [(.int .i64 0),(.int .i64 0),(.int .i64 0),(.int .i64 0),(.int .i64 0),(.int .i64 0),(.int .i64 0),(.int .i64 0),(.bool false),(.int .i64 0),(.int .i64 0),(.int .i64 0),(.str ([]:List UInt8)),(.str ([]:List UInt8)),(.str ([]:List UInt8)),(.int .i64 0),(.str ([]:List UInt8)),(.acc 3 0 1 0 true),(.acc 4 0 5 0 true),(.int .i64 0),(.int .i64 0),(.acc 5 0 2 0 true),(.acc 6 0 4 0 true)] false false)),(some (.cells [(.int .i64 (IntKind.i64.wrap (1+x1))),(.int .i64 x2),(.int .i64 x3),(.int .i64 x4),(.int .i64 x5),(.int .i64 x6),(.int .i64 x7),(.int .i64 x8),(.bool bC.fq),(.int .i64 dP.1),(.int .i64 dP.2.1),(.int .i64 dP.2.2.1),(.str dP.2.2.2.1),(.str dP.2.2.2.2.1),(.str dP.2.2.2.2.2),(.int .i64 x9),(.str x10),(.acc 7 0 1 xD.2.length true),(.acc 8 0 5 dV.length true),(.int .i64 0),(.int .i64 0),(.acc 9 0 2 0 true),(.acc 10 0 4 0 true)] false false)),(some (.cells (uY []) false true)),(some (.cells (bP []) false true)),(some (.cells (aO []) false true)),(some (.cells (aW []) false true)),(some (.cells (uY xD.2) false true)),(some (.cells (bP dV) false true)),(some (.cells (aO []) false true)),(some (.cells (aW []) false true))])
def aaQ(xD:Int×List Int)(bC:dh)(hosts:Int)(x1:Int)(x2:Int)(x3:Int)(x4:Int)(x5:Int)(x6:Int)(x7:Int)(x8:Int)(dP:(Int×Int×Int×List UInt8×List UInt8×List UInt8))(x9:Int)(x10:List UInt8)(dV:List aI):Unit⊕Unit→Ex×Fast×WH:=fun
 |.inl e=>(.normal,[(1,(.int .i64 hosts)),(2,(.ptr (some (0,0)))),(4,(.ptr (some (1,0)))),(5,(.ptr (some (2,0)))),(6,(.int .i64 xD.1))],[(some (.cells (fF bC) false false)),(some (.cells [(.int .i64 0),(.int .i64 0),(.int .i64 0),(.int .i64 0),(.int .i64 0),(.int .i64 0),(.int .i64 0),(.int .i64 0),(.bool false),(.int .i64 0),(.int .i64 0),(.int .i64 0),(.str ([]:List UInt8)),(.str ([]:List UInt8)),(.str ([]:List UInt8)),(.int .i64 0),(.str ([]:List UInt8)),(.acc 3 0 1 0 true),(.acc 4 0 5 0 true),(.int .i64 0),(.int .i64 0),(.acc 5 0 2 0 true),(.acc 6 0 4 0 true)] false false)),(some (.cells [(.int .i64 (IntKind.i64.wrap (1+x1))),(.int .i64 x2),(.int .i64 x3),(.int .i64 x4),(.int .i64 x5),(.int .i64 x6),(.int .i64 x7),(.int .i64 x8),(.bool bC.fq),(.int .i64 dP.1),(.int .i64 dP.2.1),(.int .i64 dP.2.2.1),(.str dP.2.2.2.1),(.str dP.2.2.2.2.1),(.str dP.2.2.2.2.2),(.int .i64 x9),(.str x10),(.acc 7 0 1 xD.2.length true),(.acc 8 0 5 dV.length true),(.int .i64 0),(.int .i64 0),(.acc 9 0 2 0 true),(.acc 10 0 4 0 true)] false false)),(some (.cells (uY []) false true)),(some (.cells (bP []) false true)),(some (.cells (aO []) false true)),(some (.cells (aW []) false true)),(some (.cells (uY xD.2) false true)),(some (.cells (bP dV) false true)),(some (.cells (aO []) false true)),(some (.cells (aW []) false true))])
 |.inr e=>((.exit 0),[(2,(.ptr (some (0,0)))),(4,(.ptr (some (1,0)))),(5,(.ptr (some (2,0))))],[(some (.cells (fF bC) false false)),(some (.cells [(.int .i64 0),(.int .i64 0),(.int .i64 0),(.int .i64 0),(.int .i64 0),(.int .i64 0),(.int .i64 0),(.int .i64 0),(.bool false),(.int .i64 0),(.int .i64 0),(.int .i64 0),(.str ([]:List UInt8)),(.str ([]:List UInt8)),(.str ([]:List UInt8)),(.int .i64 0),(.str ([]:List UInt8)),(.acc 3 0 1 0 true),(.acc 4 0 5 0 true),(.int .i64 0),(.int .i64 0),(.acc 5 0 2 0 true),(.acc 6 0 4 0 true)] false false)),(some (.cells [(.int .i64 (IntKind.i64.wrap (1+x1))),(.int .i64 x2),(.int .i64 x3),(.int .i64 x4),(.int .i64 x5),(.int .i64 x6),(.int .i64 x7),(.int .i64 x8),(.bool bC.fq),(.int .i64 dP.1),(.int .i64 dP.2.1),(.int .i64 dP.2.2.1),(.str dP.2.2.2.1),(.str dP.2.2.2.2.1),(.str dP.2.2.2.2.2),(.int .i64 x9),(.str x10),(.acc 7 0 1 xD.2.length true),(.acc 8 0 5 dV.length true),(.int .i64 0),(.int .i64 0),(.acc 9 0 2 0 true),(.acc 10 0 4 0 true)] false false)),(some (.cells (uY []) false true)),(some (.cells (bP []) false true)),(some (.cells (aO []) false true)),(some (.cells (aW []) false true)),(some (.cells (uY xD.2) false true)),(some (.cells (bP dV) false true)),(some (.cells (aO []) false true)),(some (.cells (aW []) false true))])
def Rh(xD:Int×List Int)(bC:dh)(hosts:Int)(x1:Int)(x2:Int)(x3:Int)(x4:Int)(x5:Int)(x6:Int)(x7:Int)(x8:Int)(dP:(Int×Int×Int×List UInt8×List UInt8×List UInt8))(x9:Int)(x10:List UInt8)(dV:List aI):Option (Unit⊕Unit) :=
 cond (decide (xD.1<(bC.Path.length:Int))) (cond (decide (xD.1<5)) (some (.inl ())) (some (.inr ()))) (some (.inr ()))
theorem Ut(d:Nat){xD:Int×List Int}{bC:dh}{hosts:Int}{x1:Int}{x2:Int}{x3:Int}{x4:Int}{x5:Int}{x6:Int}{x7:Int}{x8:Int}{dP:(Int×Int×Int×List UInt8×List UInt8×List UInt8)}{x9:Int}{x10:List UInt8}{dV:List aI}{r:Unit⊕Unit}(h:Rh xD bC hosts x1 x2 x3 x4 x5 x6 x7 x8 dP x9 x10 dV=some r):dx (bF (aQ aT (d+0)) KK 154 Li) 0 (adj xD bC hosts x1 x2 x3 x4 x5 x6 x7 x8 dP x9 x10 dV) (aaQ xD bC hosts x1 x2 x3 x4 x5 x6 x7 x8 dP x9 x10 dV r):=by
 unfold Rh at h
 exact bU nB MH h (.br 68 (λ_=>.br 71 (λ_=>E0 [1,2,4,5,6]) λ_=>E0 [2,4,5]) λ_=>E0 [2,4,5])
def Dh(bC:dh)(hosts:Int)(x1:Int)(x2:Int)(x3:Int)(x4:Int)(x5:Int)(x6:Int)(x7:Int)(x8:Int)(dP:(Int×Int×Int×List UInt8×List UInt8×List UInt8))(x9:Int)(x10:List UInt8)(dV:List aI)(xD:Int×List Int):List AV×WH:=([(.int .i64 hosts),(.ptr (some (0,0))),(.ptr (some (1,0))),(.ptr (some (2,0))),(.int .i64 xD.1)],[(some (.cells (fF bC) false false)),(some (.cells [(.int .i64 0),(.int .i64 0),(.int .i64 0),(.int .i64 0),(.int .i64 0),(.int .i64 0),(.int .i64 0),(.int .i64 0),(.bool false),(.int .i64 0),(.int .i64 0),(.int .i64 0),(.str ([]:List UInt8)),(.str ([]:List UInt8)),(.str ([]:List UInt8)),(.int .i64 0),(.str ([]:List UInt8)),(.acc 3 0 1 0 true),(.acc 4 0 5 0 true),(.int .i64 0),(.int .i64 0),(.acc 5 0 2 0 true),(.acc 6 0 4 0 true)] false false)),(some (.cells [(.int .i64 (IntKind.i64.wrap (1+x1))),(.int .i64 x2),(.int .i64 x3),(.int .i64 x4),(.int .i64 x5),(.int .i64 x6),(.int .i64 x7),(.int .i64 x8),(.bool bC.fq),(.int .i64 dP.1),(.int .i64 dP.2.1),(.int .i64 dP.2.2.1),(.str dP.2.2.2.1),(.str dP.2.2.2.2.1),(.str dP.2.2.2.2.2),(.int .i64 x9),(.str x10),(.acc 7 0 1 xD.2.length true),(.acc 8 0 5 dV.length true),(.int .i64 0),(.int .i64 0),(.acc 9 0 2 0 true),(.acc 10 0 4 0 true)] false false)),(some (.cells (uY []) false true)),(some (.cells (bP []) false true)),(some (.cells (aO []) false true)),(some (.cells (aW []) false true)),(some (.cells (uY xD.2) false true)),(some (.cells (bP dV) false true)),(some (.cells (aO []) false true)),(some (.cells (aW []) false true))])
def Gz(bC:dh)(hosts:Int)(x1:Int)(x2:Int)(x3:Int)(x4:Int)(x5:Int)(x6:Int)(x7:Int)(x8:Int)(dP:(Int×Int×Int×List UInt8×List UInt8×List UInt8))(x9:Int)(x10:List UInt8)(dV:List aI):(List Int)→Ex×Fast×WH:=λe=>((.exit 0),[(2,(.ptr (some (0,0)))),(4,(.ptr (some (1,0)))),(5,(.ptr (some (2,0))))],[(some (.cells (fF bC) false false)),(some (.cells [(.int .i64 0),(.int .i64 0),(.int .i64 0),(.int .i64 0),(.int .i64 0),(.int .i64 0),(.int .i64 0),(.int .i64 0),(.bool false),(.int .i64 0),(.int .i64 0),(.int .i64 0),(.str ([]:List UInt8)),(.str ([]:List UInt8)),(.str ([]:List UInt8)),(.int .i64 0),(.str ([]:List UInt8)),(.acc 3 0 1 0 true),(.acc 4 0 5 0 true),(.int .i64 0),(.int .i64 0),(.acc 5 0 2 0 true),(.acc 6 0 4 0 true)] false false)),(some (.cells [(.int .i64 (IntKind.i64.wrap (1+x1))),(.int .i64 x2),(.int .i64 x3),(.int .i64 x4),(.int .i64 x5),(.int .i64 x6),(.int .i64 x7),(.int .i64 x8),(.bool bC.fq),(.int .i64 dP.1),(.int .i64 dP.2.1),(.int .i64 dP.2.2.1),(.str dP.2.2.2.1),(.str dP.2.2.2.2.1),(.str dP.2.2.2.2.2),(.int .i64 x9),(.str x10),(.acc 7 0 1 e.length true),(.acc 8 0 5 dV.length true),(.int .i64 0),(.int .i64 0),(.acc 9 0 2 0 true),(.acc 10 0 4 0 true)] false false)),(some (.cells (uY []) false true)),(some (.cells (bP []) false true)),(some (.cells (aO []) false true)),(some (.cells (aW []) false true)),(some (.cells (uY e) false true)),(some (.cells (bP dV) false true)),(some (.cells (aO []) false true)),(some (.cells (aW []) false true))])
abbrev adk(bC:dh)(hosts:Int)(x1:Int)(x2:Int)(x3:Int)(x4:Int)(x5:Int)(x6:Int)(x7:Int)(x8:Int)(dP:(Int×Int×Int×List UInt8×List UInt8×List UInt8))(x9:Int)(x10:List UInt8)(dV:List aI):=eF [1,2,4,5,6] (Dh bC hosts x1 x2 x3 x4 x5 x6 x7 x8 dP x9 x10 dV) (Gz bC hosts x1 x2 x3 x4 x5 x6 x7 x8 dP x9 x10 dV)
def Fb(bC:dh)(hosts:Int)(x1:Int)(x2:Int)(x3:Int)(x4:Int)(x5:Int)(x6:Int)(x7:Int)(x8:Int)(dP:(Int×Int×Int×List UInt8×List UInt8×List UInt8))(x9:Int)(x10:List UInt8)(dV:List aI)(xD:Int×List Int):Option ((Int×List Int)⊕((List Int))) :=
 (Rh xD bC hosts x1 x2 x3 x4 x5 x6 x7 x8 dP x9 x10 dV).bind λ(x27:Unit⊕Unit)=>cond (jY x27) ((dH bC.Path xD.1).bind λ(x29:Int)=>(b_ x29 hosts).bind λ(x30:Int)=>gd (dR 8 (xD.2++[x30]).length) (some (.inl ((IntKind.i64.wrap (xD.1+1)),(xD.2++[x30]))))) (some (.inr xD.2))
def aag(bC:dh)(hosts:Int)(x1:Int)(x2:Int)(x3:Int)(x4:Int)(x5:Int)(x6:Int)(x7:Int)(x8:Int)(dP:(Int×Int×Int×List UInt8×List UInt8×List UInt8))(x9:Int)(x10:List UInt8)(dV:List aI)(xD:Int×List Int):Option ((List Int)):=dG (Fb bC hosts x1 x2 x3 x4 x5 x6 x7 x8 dP x9 x10 dV) KK xD
theorem aeH(d:Nat){bC:dh}{hosts:Int}{x1:Int}{x2:Int}{x3:Int}{x4:Int}{x5:Int}{x6:Int}{x7:Int}{x8:Int}{dP:(Int×Int×Int×List UInt8×List UInt8×List UInt8)}{x9:Int}{x10:List UInt8}{dV:List aI}{xD:Int×List Int}{r:(Int×List Int)⊕((List Int))}(h:Fb bC hosts x1 x2 x3 x4 x5 x6 x7 x8 dP x9 x10 dV xD=some r):dx (bF (aQ aT (d+1)) KK 154 aiY) 0 (jM [1,2,4,5,6] (Dh bC hosts x1 x2 x3 x4 x5 x6 x7 x8 dP x9 x10 dV xD)) (adk bC hosts x1 x2 x3 x4 x5 x6 x7 x8 dP x9 x10 dV r):=by
 unfold Fb at h
 exact bU nB aiZ h (.bd λx27 q27=>.ite (λamt=>Jn [1,2,4,5,6] [none,none,none,none,none] [] [] (kI (il amt) (Ut (d+1) q27))<|.bd λx29 q29=>Ix Lc 79 q29<|.bd λx30 q30=>jw (dw (d+0) q30)<|.gd λq31=>Ap Lc 84 q31<|.st none<|E0 [1,2,4,5,6]) λamt=>Jn [1,2,4,5,6] [none,none,none,none,none] [] [] (kI (Ai amt) (Ut (d+1) q27))<|E0 [2,4,5])
theorem aeI(d:Nat){bC:dh}{hosts:Int}{x1:Int}{x2:Int}{x3:Int}{x4:Int}{x5:Int}{x6:Int}{x7:Int}{x8:Int}{dP:(Int×Int×Int×List UInt8×List UInt8×List UInt8)}{x9:Int}{x10:List UInt8}{dV:List aI}{xD:Int×List Int}{r:(List Int)}(h:aag bC hosts x1 x2 x3 x4 x5 x6 x7 x8 dP x9 x10 dV xD=some r):dx (fQ (bF (aQ aT (d+1)) KK 154 aiY) [1,2,4,5,6] KK) 0 (jM [1,2,4,5,6] (Dh bC hosts x1 x2 x3 x4 x5 x6 x7 x8 dP x9 x10 dV xD)) (Gz bC hosts x1 x2 x3 x4 x5 x6 x7 x8 dP x9 x10 dV r) :=
 dS (st:=Dh bC hosts x1 x2 x3 x4 x5 x6 x7 x8 dP x9 x10 dV) (fin:=Gz bC hosts x1 x2 x3 x4 x5 x6 x7 x8 dP x9 x10 dV) (step:=Fb bC hosts x1 x2 x3 x4 x5 x6 x7 x8 dP x9 x10 dV) (λe=>by(intro h;cases h)) (λs x h=>aeH d h) KK xD r h
abbrev adl(x1:Int)(bC:dh)(x2:Int)(x3:Int)(x4:Int)(x5:Int)(x6:Int)(x7:Int)(x8:Int)(dP:(Int×Int×Int×List UInt8×List UInt8×List UInt8))(x9:Int)(x10:List UInt8)(x32:(List Int))(dV:List aI):Fast×WH:=([(2,(.ptr (some (0,0)))),(4,(.ptr (some (1,0)))),(5,(.ptr (some (2,0))))],[(some (.cells (fF bC) false false)),(some (.cells [(.int .i64 0),(.int .i64 0),(.int .i64 0),(.int .i64 0),(.int .i64 0),(.int .i64 0),(.int .i64 0),(.int .i64 0),(.bool false),(.int .i64 0),(.int .i64 0),(.int .i64 0),(.str ([]:List UInt8)),(.str ([]:List UInt8)),(.str ([]:List UInt8)),(.int .i64 0),(.str ([]:List UInt8)),(.acc 3 0 1 0 true),(.acc 4 0 5 0 true),(.int .i64 0),(.int .i64 0),(.acc 5 0 2 0 true),(.acc 6 0 4 0 true)] false false)),(some (.cells [(.int .i64 (IntKind.i64.wrap (1+x1))),(.int .i64 x2),(.int .i64 x3),(.int .i64 x4),(.int .i64 x5),(.int .i64 x6),(.int .i64 x7),(.int .i64 x8),(.bool bC.fq),(.int .i64 dP.1),(.int .i64 dP.2.1),(.int .i64 dP.2.2.1),(.str dP.2.2.2.1),(.str dP.2.2.2.2.1),(.str dP.2.2.2.2.2),(.int .i64 x9),(.str x10),(.acc 7 0 1 x32.length true),(.acc 8 0 5 dV.length true),(.int .i64 0),(.int .i64 0),(.acc 9 0 2 0 true),(.acc 10 0 4 0 true)] false false)),(some (.cells (uY []) false true)),(some (.cells (bP []) false true)),(some (.cells (aO []) false true)),(some (.cells (aW []) false true)),(some (.cells (uY x32) false true)),(some (.cells (bP dV) false true)),(some (.cells (aO []) false true)),(some (.cells (aW []) false true))])
def aaR(x1:Int)(bC:dh)(x2:Int)(x3:Int)(x4:Int)(x5:Int)(x6:Int)(x7:Int)(x8:Int)(dP:(Int×Int×Int×List UInt8×List UInt8×List UInt8))(x9:Int)(x10:List UInt8)(x32:(List Int))(dV:List aI):Bool→Ex×Fast×WH:=λe=>(.normal,[(2,(.ptr (some (0,0)))),(4,(.ptr (some (1,0)))),(5,(.ptr (some (2,0)))),(94,(.bool e))],[(some (.cells (fF bC) false false)),(some (.cells [(.int .i64 0),(.int .i64 0),(.int .i64 0),(.int .i64 0),(.int .i64 0),(.int .i64 0),(.int .i64 0),(.int .i64 0),(.bool false),(.int .i64 0),(.int .i64 0),(.int .i64 0),(.str ([]:List UInt8)),(.str ([]:List UInt8)),(.str ([]:List UInt8)),(.int .i64 0),(.str ([]:List UInt8)),(.acc 3 0 1 0 true),(.acc 4 0 5 0 true),(.int .i64 0),(.int .i64 0),(.acc 5 0 2 0 true),(.acc 6 0 4 0 true)] false false)),(some (.cells [(.int .i64 (IntKind.i64.wrap (1+x1))),(.int .i64 x2),(.int .i64 x3),(.int .i64 x4),(.int .i64 x5),(.int .i64 x6),(.int .i64 x7),(.int .i64 x8),(.bool bC.fq),(.int .i64 dP.1),(.int .i64 dP.2.1),(.int .i64 dP.2.2.1),(.str dP.2.2.2.1),(.str dP.2.2.2.2.1),(.str dP.2.2.2.2.2),(.int .i64 x9),(.str x10),(.acc 7 0 1 x32.length true),(.acc 8 0 5 dV.length true),(.int .i64 0),(.int .i64 0),(.acc 9 0 2 0 true),(.acc 10 0 4 0 true)] false false)),(some (.cells (uY []) false true)),(some (.cells (bP []) false true)),(some (.cells (aO []) false true)),(some (.cells (aW []) false true)),(some (.cells (uY x32) false true)),(some (.cells (bP dV) false true)),(some (.cells (aO []) false true)),(some (.cells (aW []) false true))])
def Ri(x1:Int)(bC:dh)(x2:Int)(x3:Int)(x4:Int)(x5:Int)(x6:Int)(x7:Int)(x8:Int)(dP:(Int×Int×Int×List UInt8×List UInt8×List UInt8))(x9:Int)(x10:List UInt8)(x32:(List Int))(dV:List aI):Option (Bool) :=
 cond ((IntKind.i64.wrap (1+x1))==6) (some true) ((b_ bC.vQ 4).bind λ(x33:Int)=>some (x33==1))
theorem aeJ(d:Nat){x1:Int}{bC:dh}{x2:Int}{x3:Int}{x4:Int}{x5:Int}{x6:Int}{x7:Int}{x8:Int}{dP:(Int×Int×Int×List UInt8×List UInt8×List UInt8)}{x9:Int}{x10:List UInt8}{x32:(List Int)}{dV:List aI}{r:Bool}(h:Ri x1 bC x2 x3 x4 x5 x6 x7 x8 dP x9 x10 x32 dV=some r):dx (bF (aQ aT (d+1)) KK 154 QH) 0 (adl x1 bC x2 x3 x4 x5 x6 x7 x8 dP x9 x10 x32 dV) (aaR x1 bC x2 x3 x4 x5 x6 x7 x8 dP x9 x10 x32 dV r):=by
 unfold Ri at h
 exact bU nB QI h (.br 89 (λ_=>E0 [2,4,5,94]) λ_=>.bd λx33 q33=>jw (dw (d+0) q33)<|E0 [2,4,5,94])
abbrev adn(x1:Int)(bC:dh)(x2:Int)(x3:Int)(x4:Int)(x5:Int)(x6:Int)(x7:Int)(x8:Int)(dP:(Int×Int×Int×List UInt8×List UInt8×List UInt8))(x9:Int)(x10:List UInt8)(x32:(List Int))(dV:List aI):Fast×WH:=([(2,(.ptr (some (0,0)))),(4,(.ptr (some (1,0)))),(5,(.ptr (some (2,0))))],[(some (.cells (fF bC) false false)),(some (.cells [(.int .i64 0),(.int .i64 0),(.int .i64 0),(.int .i64 0),(.int .i64 0),(.int .i64 0),(.int .i64 0),(.int .i64 0),(.bool false),(.int .i64 0),(.int .i64 0),(.int .i64 0),(.str ([]:List UInt8)),(.str ([]:List UInt8)),(.str ([]:List UInt8)),(.int .i64 0),(.str ([]:List UInt8)),(.acc 3 0 1 0 true),(.acc 4 0 5 0 true),(.int .i64 0),(.int .i64 0),(.acc 5 0 2 0 true),(.acc 6 0 4 0 true)] false false)),(some (.cells [(.int .i64 (IntKind.i64.wrap (1+x1))),(.int .i64 x2),(.int .i64 x3),(.int .i64 x4),(.int .i64 x5),(.int .i64 x6),(.int .i64 x7),(.int .i64 x8),(.bool bC.fq),(.int .i64 dP.1),(.int .i64 dP.2.1),(.int .i64 dP.2.2.1),(.str dP.2.2.2.1),(.str dP.2.2.2.2.1),(.str dP.2.2.2.2.2),(.int .i64 x9),(.str x10),(.acc 7 0 1 x32.length true),(.acc 8 0 5 dV.length true),(.int .i64 0),(.int .i64 0),(.acc 9 0 2 0 true),(.acc 10 0 4 0 true)] false false)),(some (.cells (uY []) false true)),(some (.cells (bP []) false true)),(some (.cells (aO []) false true)),(some (.cells (aW []) false true)),(some (.cells (uY x32) false true)),(some (.cells (bP dV) false true)),(some (.cells (aO []) false true)),(some (.cells (aW []) false true))])
def aaS(x1:Int)(bC:dh)(x2:Int)(x3:Int)(x4:Int)(x5:Int)(x6:Int)(x7:Int)(x8:Int)(dP:(Int×Int×Int×List UInt8×List UInt8×List UInt8))(x9:Int)(x10:List UInt8)(x32:(List Int))(dV:List aI):(Int×Int×List aF×List aB)→Ex×Fast×WH:=λe=>(.normal,[(2,(.ptr (some (0,0)))),(4,(.ptr (some (1,0)))),(5,(.ptr (some (2,0))))],[(some (.cells (fF bC) false false)),(some (.cells [(.int .i64 0),(.int .i64 0),(.int .i64 0),(.int .i64 0),(.int .i64 0),(.int .i64 0),(.int .i64 0),(.int .i64 0),(.bool false),(.int .i64 0),(.int .i64 0),(.int .i64 0),(.str ([]:List UInt8)),(.str ([]:List UInt8)),(.str ([]:List UInt8)),(.int .i64 0),(.str ([]:List UInt8)),(.acc 3 0 1 0 true),(.acc 4 0 5 0 true),(.int .i64 0),(.int .i64 0),(.acc 5 0 2 0 true),(.acc 6 0 4 0 true)] false false)),(some (.cells [(.int .i64 (IntKind.i64.wrap (1+x1))),(.int .i64 x2),(.int .i64 x3),(.int .i64 x4),(.int .i64 x5),(.int .i64 x6),(.int .i64 x7),(.int .i64 x8),(.bool bC.fq),(.int .i64 dP.1),(.int .i64 dP.2.1),(.int .i64 dP.2.2.1),(.str dP.2.2.2.1),(.str dP.2.2.2.2.1),(.str dP.2.2.2.2.2),(.int .i64 x9),(.str x10),(.acc 7 0 1 x32.length true),(.acc 8 0 5 dV.length true),(.int .i64 e.1),(.int .i64 e.2.1),(.acc 9 0 2 e.2.2.1.length true),(.acc 10 0 4 e.2.2.2.length true)] false false)),(some (.cells (uY []) false true)),(some (.cells (bP []) false true)),(some (.cells (aO []) false true)),(some (.cells (aW []) false true)),(some (.cells (uY x32) false true)),(some (.cells (bP dV) false true)),(some (.cells (aO e.2.2.1) false true)),(some (.cells (aW e.2.2.2) false true))])
def Rj(x1:Int)(bC:dh)(x2:Int)(x3:Int)(x4:Int)(x5:Int)(x6:Int)(x7:Int)(x8:Int)(dP:(Int×Int×Int×List UInt8×List UInt8×List UInt8))(x9:Int)(x10:List UInt8)(x32:(List Int))(dV:List aI):Option ((Int×Int×List aF×List aB)) :=
 (Ri x1 bC x2 x3 x4 x5 x6 x7 x8 dP x9 x10 x32 dV).bind λ(x34:Bool)=>cond x34 ((BA bC.fJ bC.Epoch bC.Ops 0).bind λ(x35:Int×Int×List aF×List aB)=>some (x35.1,x35.2.1,x35.2.2.1,x35.2.2.2)) (some (0,0,[],[]))
theorem aeK(d:Nat){x1:Int}{bC:dh}{x2:Int}{x3:Int}{x4:Int}{x5:Int}{x6:Int}{x7:Int}{x8:Int}{dP:(Int×Int×Int×List UInt8×List UInt8×List UInt8)}{x9:Int}{x10:List UInt8}{x32:(List Int)}{dV:List aI}{r:(Int×Int×List aF×List aB)}(h:Rj x1 bC x2 x3 x4 x5 x6 x7 x8 dP x9 x10 x32 dV=some r):dx (bF (aQ aT (d+5)) KK 154 U8) 0 (adn x1 bC x2 x3 x4 x5 x6 x7 x8 dP x9 x10 x32 dV) (aaS x1 bC x2 x3 x4 x5 x6 x7 x8 dP x9 x10 x32 dV r):=by
 unfold Rj at h
 exact bU nB Ui h (.bd λx34 q34=>Jn [2,4,5] [none,none,none] [] [] (aeJ (d+4) q34)<|.br 94 (λ_=>.bd λx35 q35=>Cl [Fo,Fo,Fo,Fo] none [.undef,.undef,.slice none 8 0 0 true] (Oo (d+0) q35)<|.st none<|E0 [2,4,5]) λ_=>E0 [2,4,5])
def ajY(bC:dh)(hosts:Int):Option (Int×Int×Int×Int×Int×Int×Int×Int×Bool×Int×Int×Int×List UInt8×List UInt8×List UInt8×Int×List UInt8×Int×Int×List Int×List aI×List aF×List aB) :=
 (b_ bC.Kind 10).bind λ(x1:Int)=>(b_ bC.From hosts).bind λ(x2:Int)=>(b_ bC.To hosts).bind λ(x3:Int)=>(b_ bC.fJ 6).bind λ(x4:Int)=>(b_ bC.Epoch 6).bind λ(x5:Int)=>(b_ bC.Weight 9).bind λ(x6:Int)=>(b_ bC.Load 20).bind λ(x7:Int)=>(b_ bC.ou 4).bind λ(x8:Int)=>(b_ bC.Why 12).bind λ(x9:Int)=>(Ak bC.Why).bind λ(x10:List UInt8)=>(Vi bC.Table 5).bind λ(dV:List aI)=>(Ll bC.Op).bind λ(dZ:bJ)=>(Rf dZ bC hosts x1 x2 x3 x4 x5 x6 x7 x8 x9 x10 dV).bind λ(dP:(Int×Int×Int×List UInt8×List UInt8×List UInt8))=>(aag bC hosts x1 x2 x3 x4 x5 x6 x7 x8 dP x9 x10 dV (0,[])).bind λ(x32:(List Int))=>(Rj x1 bC x2 x3 x4 x5 x6 x7 x8 dP x9 x10 x32 dV).bind λ(Eh:(Int×Int×List aF×List aB))=>(b_ bC.vQ 22).bind λ(Xb:Int)=>cond (Xb==16) ((CY bC.ou).bind λ(x38:Int)=>some ((IntKind.i64.wrap (1+x1)),x2,x3,x4,x5,x6,x7,x38,bC.fq,dP.1,dP.2.1,dP.2.2.1,dP.2.2.2.1,dP.2.2.2.2.1,dP.2.2.2.2.2,x9,x10,Eh.1,Eh.2.1,x32,dV,Eh.2.2.1,Eh.2.2.2)) (cond (Xb==17) ((CY bC.From).bind λ(x39:Int)=>some ((IntKind.i64.wrap (1+x1)),x39,x3,x4,x5,x6,x7,x8,bC.fq,dP.1,dP.2.1,dP.2.2.1,dP.2.2.2.1,dP.2.2.2.2.1,dP.2.2.2.2.2,x9,x10,Eh.1,Eh.2.1,x32,dV,Eh.2.2.1,Eh.2.2.2)) (cond (Xb==18) ((b_ bC.Kind 14).bind λ(x40:Int)=>some ((IntKind.i64.wrap (x40-1)),x2,x3,x4,x5,x6,x7,x8,bC.fq,dP.1,dP.2.1,dP.2.2.1,dP.2.2.2.1,dP.2.2.2.2.1,dP.2.2.2.2.2,x9,x10,Eh.1,Eh.2.1,x32,dV,Eh.2.2.1,Eh.2.2.2)) (cond (Xb==19) ((BA bC.fJ bC.Epoch bC.Ops (IntKind.i64.wrap (Int.tdiv bC.vQ 22))).bind λ(x41:Int×Int×List aF×List aB)=>some ((IntKind.i64.wrap (1+x1)),x2,x3,x4,x5,x6,x7,x8,bC.fq,dP.1,dP.2.1,dP.2.2.1,dP.2.2.2.1,dP.2.2.2.2.1,dP.2.2.2.2.2,x9,x10,x41.1,x41.2.1,x32,dV,x41.2.2.1,x41.2.2.2)) (cond (Xb==20) ((b_ bC.Why 15).bind λ(x42:Int)=>some ((IntKind.i64.wrap (1+x1)),x2,x3,x4,x5,x6,x7,x8,bC.fq,dP.1,dP.2.1,dP.2.2.1,dP.2.2.2.1,dP.2.2.2.2.1,dP.2.2.2.2.2,(IntKind.i64.wrap (x42-2)),x10,Eh.1,Eh.2.1,x32,dV,Eh.2.2.1,Eh.2.2.2)) (cond (Xb==21) (gd (dR 8 (x32++[1,2,3,4,5,6]).length) (some ((IntKind.i64.wrap (1+x1)),x2,x3,x4,x5,x6,x7,x8,bC.fq,dP.1,dP.2.1,dP.2.2.1,dP.2.2.2.1,dP.2.2.2.2.1,dP.2.2.2.2.2,x9,x10,Eh.1,Eh.2.1,(x32++[1,2,3,4,5,6]),dV,Eh.2.2.1,Eh.2.2.2))) (some ((IntKind.i64.wrap (1+x1)),x2,x3,x4,x5,x6,x7,x8,bC.fq,dP.1,dP.2.1,dP.2.2.1,dP.2.2.2.1,dP.2.2.2.2.1,dP.2.2.2.2.2,x9,x10,Eh.1,Eh.2.1,x32,dV,Eh.2.2.1,Eh.2.2.2)))))))
def Xd(bC:dh)(hosts:Int)(r:Int×Int×Int×Int×Int×Int×Int×Int×Bool×Int×Int×Int×List UInt8×List UInt8×List UInt8×Int×List UInt8×Int×Int×List Int×List aI×List aF×List aB):AV×WH:=((.agg [(.int .i64 r.1),(.int .i64 r.2.1),(.int .i64 r.2.2.1),(.int .i64 r.2.2.2.1),(.int .i64 r.2.2.2.2.1),(.int .i64 r.2.2.2.2.2.1),(.int .i64 r.2.2.2.2.2.2.1),(.int .i64 r.2.2.2.2.2.2.2.1),(.bool r.2.2.2.2.2.2.2.2.1),(.int .i64 r.2.2.2.2.2.2.2.2.2.1),(.int .i64 r.2.2.2.2.2.2.2.2.2.2.1),(.int .i64 r.2.2.2.2.2.2.2.2.2.2.2.1),(.str r.2.2.2.2.2.2.2.2.2.2.2.2.1),(.str r.2.2.2.2.2.2.2.2.2.2.2.2.2.1),(.str r.2.2.2.2.2.2.2.2.2.2.2.2.2.2.1),(.int .i64 r.2.2.2.2.2.2.2.2.2.2.2.2.2.2.2.1),(.str r.2.2.2.2.2.2.2.2.2.2.2.2.2.2.2.2.1),(.acc 0 0 1 r.2.2.2.2.2.2.2.2.2.2.2.2.2.2.2.2.2.2.2.1.length true),(.acc 1 0 5 r.2.2.2.2.2.2.2.2.2.2.2.2.2.2.2.2.2.2.2.2.1.length true),(.int .i64 r.2.2.2.2.2.2.2.2.2.2.2.2.2.2.2.2.2.1),(.int .i64 r.2.2.2.2.2.2.2.2.2.2.2.2.2.2.2.2.2.2.1),(.acc 2 0 2 r.2.2.2.2.2.2.2.2.2.2.2.2.2.2.2.2.2.2.2.2.2.1.length true),(.acc 3 0 4 r.2.2.2.2.2.2.2.2.2.2.2.2.2.2.2.2.2.2.2.2.2.2.length true)]),[(some (.cells (uY r.2.2.2.2.2.2.2.2.2.2.2.2.2.2.2.2.2.2.2.1) false true)),(some (.cells (bP r.2.2.2.2.2.2.2.2.2.2.2.2.2.2.2.2.2.2.2.2.1) false true)),(some (.cells (aO r.2.2.2.2.2.2.2.2.2.2.2.2.2.2.2.2.2.2.2.2.2.1) false true)),(some (.cells (aW r.2.2.2.2.2.2.2.2.2.2.2.2.2.2.2.2.2.2.2.2.2.2) false true))])
theorem azF(d:Nat){bC:dh}{hosts:Int}{r:Int×Int×Int×Int×Int×Int×Int×Int×Bool×Int×Int×Int×List UInt8×List UInt8×List UInt8×Int×List UInt8×Int×Int×List Int×List aI×List aF×List aB}(h:ajY bC hosts=some r):Spec (aQ aT (d+6)) 8 [(.agg (fF bC)),(.int .i64 hosts)] [] (Xd bC hosts r).1 (Xd bC hosts r).2:=by
 unfold ajY at h
 exact bK nB AF8 h (.z 4 [.undef,.undef,.undef,.undef,.undef,.undef,.undef,.undef,.undef,.undef,.undef,.undef,.undef,.undef,.undef,.undef,.undef,.slice none 1 0 0 true,.slice none 5 0 0 true,.undef,.undef,.slice none 2 0 0 true,.slice none 4 0 0 true]<|.bd λx1 q1=>jw (dw (d+4) q1)<|.bd λx2 q2=>jw (dw (d+4) q2)<|.bd λx3 q3=>jw (dw (d+4) q3)<|.bd λx4 q4=>jw (dw (d+4) q4)<|.bd λx5 q5=>jw (dw (d+4) q5)<|.bd λx6 q6=>jw (dw (d+4) q6)<|.bd λx7 q7=>jw (dw (d+4) q7)<|.bd λx8 q8=>jw (dw (d+4) q8)<|.bd λx9 q9=>jw (dw (d+4) q9)<|.bd λx10 MG=>jw (Oj (d+3) MG)<|.er<|.ob (rfl:@Eq (Option AV) (some (bV bC.Table)) (some (bV bC.Table)))<|.ob (rfl:@Eq (Option AV) (some (bV bC.Table)) (some (bV bC.Table)))<|.ob (rfl:@Eq (Option AV) (some (bV bC.Table)) (some (bV bC.Table)))<|.ob (rfl:@Eq (Option AV) (some (bV bC.Table)) (some (bV bC.Table)))<|.ob (rfl:@Eq (Option AV) (some (bV bC.Table)) (some (bV bC.Table)))<|.ob (rfl:@Eq (Option AV) (some (bV bC.Table)) (some (bV bC.Table)))<|.ob (rfl:@Eq (Option AV) (some (bV bC.Table)) (some (bV bC.Table)))<|.ob (rfl:@Eq (Option AV) (some (bV bC.Table)) (some (bV bC.Table)))<|.ob (rfl:@Eq (Option AV) (some (bV bC.Table)) (some (bV bC.Table)))<|.ob (rfl:@Eq (Option AV) (some (bV bC.Table)) (some (bV bC.Table)))<|.bd λdV J5=>Cl [Fo,Fo] none [.slice none 5 0 0 true] (ahD (d+0) J5)<|.z 46 [.agg [.undef,.undef,.undef,.undef,.undef,.undef,.undef,.undef,.undef,.undef,.undef,.undef,.undef,.undef,.undef,.undef,.undef,.slice none 1 0 0 true,.slice none 5 0 0 true,.undef,.undef,.slice none 2 0 0 true,.slice none 4 0 0 true]]<|.z 5 [.undef,.undef,.undef,.undef,.undef,.undef,.undef,.undef,.undef,.undef,.undef,.undef,.undef,.undef,.undef,.undef,.undef,.slice none 1 0 0 true,.slice none 5 0 0 true,.undef,.undef,.slice none 2 0 0 true,.slice none 4 0 0 true]<|.st none<|.bd λdZ MO=>jw (WY (d+1) MO)<|.st none<|.bd λdP Md=>Jn [1,2,4,5] [none,none,none,none] [] [] (aeG (d+2) Md)<|.bd λx32 q32=>Lp [none,none,none,none,none] [Tw,Tw,Tw,Tw,Tw,Tw,Tw,Tw,Tw,Tw,Tw] [] (aeI (d+4) q32)<|.bd λEh q36=>Jn [2,4,5] [none,none,none] [] [] (aeK (d+0) q36)<|.bd λXb q37=>jw (dw (d+4) q37)<|.br 106 (λ_=>.bd λx38 q38=>jw (Al (d+3) q38)<|.st none<|.st none<|Fn none [.agg [.undef,.undef,.undef,.undef,.undef,.undef,.undef,.undef,.undef,.undef,.undef,.undef,.undef,.undef,.undef,.undef,.undef,.slice none 1 0 0 true,.slice none 5 0 0 true,.undef,.undef,.slice none 2 0 0 true,.slice none 4 0 0 true]] none) λ_=>.br 112 (λ_=>.bd λx39 q39=>jw (Al (d+3) q39)<|.st none<|.st none<|Fn none [.agg [.undef,.undef,.undef,.undef,.undef,.undef,.undef,.undef,.undef,.undef,.undef,.undef,.undef,.undef,.undef,.undef,.undef,.slice none 1 0 0 true,.slice none 5 0 0 true,.undef,.undef,.slice none 2 0 0 true,.slice none 4 0 0 true]] none) λ_=>.br 118 (λ_=>.bd λx40 q40=>jw (dw (d+4) q40)<|.st none<|.st none<|Fn none [.agg [.undef,.undef,.undef,.undef,.undef,.undef,.undef,.undef,.undef,.undef,.undef,.undef,.undef,.undef,.undef,.undef,.undef,.slice none 1 0 0 true,.slice none 5 0 0 true,.undef,.undef,.slice none 2 0 0 true,.slice none 4 0 0 true]] none) λ_=>.br 125 (λ_=>.bd λx41 q41=>Cl [Fo,Fo,Fo,Fo] none [.undef,.undef,.slice none 8 0 0 true] (Oo (d+0) q41)<|.st none<|.st none<|Fn none [.agg [.undef,.undef,.undef,.undef,.undef,.undef,.undef,.undef,.undef,.undef,.undef,.undef,.undef,.undef,.undef,.undef,.undef,.slice none 1 0 0 true,.slice none 5 0 0 true,.undef,.undef,.slice none 2 0 0 true,.slice none 4 0 0 true]] none) λ_=>.br 138 (λ_=>.bd λx42 q42=>jw (dw (d+4) q42)<|.st none<|.st none<|Fn none [.agg [.undef,.undef,.undef,.undef,.undef,.undef,.undef,.undef,.undef,.undef,.undef,.undef,.undef,.undef,.undef,.undef,.undef,.slice none 1 0 0 true,.slice none 5 0 0 true,.undef,.undef,.slice none 2 0 0 true,.slice none 4 0 0 true]] none) λ_=>.br 146 (λ_=>.gd λq43=>Ap Lc 151 q43<|.st none<|.st none<|Fn none [.agg [.undef,.undef,.undef,.undef,.undef,.undef,.undef,.undef,.undef,.undef,.undef,.undef,.undef,.undef,.undef,.undef,.undef,.slice none 1 0 0 true,.slice none 5 0 0 true,.undef,.undef,.slice none 2 0 0 true,.slice none 4 0 0 true]] none) λ_=>.st none<|Fn none [.agg [.undef,.undef,.undef,.undef,.undef,.undef,.undef,.undef,.undef,.undef,.undef,.undef,.undef,.undef,.undef,.undef,.undef,.slice none 1 0 0 true,.slice none 5 0 0 true,.undef,.undef,.slice none 2 0 0 true,.slice none 4 0 0 true]] none)
def vk(a:aJ):Option (Bool) :=
 cond (decide (a.Why≥0)) (cond (decide (a.Why≤11)) (some (decide ((a.Value.length:Int)≤16))) (some false)) (some false)
def Na(a:aJ)(r:Bool):AV×WH:=((.bool r),[])
theorem Je(d:Nat){a:aJ}{r:Bool}(h:vk a=some r):Spec (aQ aT (d+1)) 52 [(.agg (fM a))] [] (Na a r).1 (Na a r).2:=by
 unfold vk at h
 exact bK nB aCM h (.br 6 (λ_=>.br 11 (λ_=>Fn Fo [] none) λ_=>Fn Fo [] none) λ_=>Fn Fo [] none)
def Hw(bC:aM):Option (Bool) :=
 cond (bC.fJ==0) (cond (bC.Epoch==0) (cond ((bC.Pairs.length:Int)==0) (some ((bC.fu.length:Int)==0)) (some false)) (some false)) (some false)
def Nb(bC:aM)(r:Bool):AV×WH:=((.bool r),[])
theorem ado(d:Nat){bC:aM}{r:Bool}(h:Hw bC=some r):Spec (aQ aT (d+1)) 91 [(.agg (dB bC))] [] (Nb bC r).1 (Nb bC r).2:=by
 unfold Hw at h
 exact bK nB aDl h (.br 6 (λ_=>.br 11 (λ_=>.br 17 (λ_=>Fn Fo [] none) λ_=>Fn Fo [] none) λ_=>Fn Fo [] none) λ_=>Fn Fo [] none)
abbrev Vj(a:aM)(bS:aM):Fast×WH:=([(2,(.ptr (some (0,0)))),(3,(.ptr (some (1,0))))],[(some (.cells (dB a) false false)),(some (.cells (dB bS) false false))])
def Tz(a:aM)(bS:aM):Unit⊕Unit→Ex×Fast×WH:=fun
 |.inl e=>(.ret,[(4,(.bool false))],[])
 |.inr e=>(.normal,[(2,(.ptr (some (0,0)))),(3,(.ptr (some (1,0))))],[(some (.cells (dB a) false false)),(some (.cells (dB bS) false false))])
def Ba(a:aM)(bS:aM):Option (Unit⊕Unit) :=
 cond (a.fJ != bS.fJ) (some (.inl ())) (cond (a.Epoch != bS.Epoch) (some (.inl ())) (cond ((a.Pairs.length:Int) != (bS.Pairs.length:Int)) (some (.inl ())) (cond ((a.fu.length:Int) != (bS.fu.length:Int)) (some (.inl ())) (some (.inr ())))))
theorem KM(d:Nat){a:aM}{bS:aM}{r:Unit⊕Unit}(h:Ba a bS=some r):dx (bF (aQ aT (d+0)) KK 73 anD) 0 (Vj a bS) (Tz a bS r):=by
 unfold Ba at h
 exact bU nB alQ h (.br 12 (λ_=>E0 [4]) λ_=>.br 19 (λ_=>E0 [4]) λ_=>.br 28 (λ_=>E0 [4]) λ_=>.br 36 (λ_=>E0 [4]) λ_=>E0 [2,3])
def vo(a:aM)(bS:aM)(s5:Int):List AV×WH:=([(.ptr (some (0,0))),(.ptr (some (1,0))),(.int .i64 s5)],[(some (.cells (dB a) false false)),(some (.cells (dB bS) false false))])
def zX(a:aM)(bS:aM):Unit⊕Unit→Ex×Fast×WH:=fun
 |.inl e=>(.ret,[(4,(.bool false))],[])
 |.inr e=>((.exit 0),[(2,(.ptr (some (0,0)))),(3,(.ptr (some (1,0))))],[(some (.cells (dB a) false false)),(some (.cells (dB bS) false false))])
abbrev Vk(a:aM)(bS:aM):=eF [2,3,5] (vo a bS) (zX a bS)
def sI(a:aM)(bS:aM)(s5:Int):Option ((Int)⊕(Unit⊕Unit)) :=
 cond (decide (s5<(a.Pairs.length:Int))) ((dH a.Pairs s5).bind λ(x6:aF)=>(dH bS.Pairs s5).bind λ(x7:aF)=>cond (!(x6.Key==x7.Key&&(x6.Value==x7.Value&&true))) (some (.inr (.inl ()))) (some (.inl (IntKind.i64.wrap (s5+1))))) (some (.inr (.inr ())))
def GA(a:aM)(bS:aM)(s5:Int):Option (Unit⊕Unit):=dG (sI a bS) KK s5
theorem Xe(d:Nat){a:aM}{bS:aM}{s5:Int}{r:(Int)⊕(Unit⊕Unit)}(h:sI a bS s5=some r):dx (bF (aQ aT (d+0)) KK 73 alR) 0 (jM [2,3,5] (vo a bS s5)) (Vk a bS r):=by
 unfold sI at h
 exact bU nB aoP h (.br 41 (λ_=>.bd λx6 q6=>Ix bn 47 q6<|.bd λx7 q7=>Ix bn 52 q7<|.br 54 (λ_=>E0 [4]) λ_=>E0 [2,3,5]) λ_=>E0 [2,3])
theorem KN(d:Nat){a:aM}{bS:aM}{s5:Int}{r:Unit⊕Unit}(h:GA a bS s5=some r):dx (fQ (bF (aQ aT (d+0)) KK 73 alR) [2,3,5] KK) 0 (jM [2,3,5] (vo a bS s5)) (zX a bS r) :=
 dS (st:=vo a bS) (fin:=zX a bS) (step:=sI a bS) (λe=>by rcases e with e | e<;>(intro h;cases h)) (λs x h=>Xe d h) KK s5 r h
def vw(a:aM)(bS:aM)(s12:Int):List AV×WH:=([(.ptr (some (0,0))),(.ptr (some (1,0))),(.int .i64 s12)],[(some (.cells (dB a) false false)),(some (.cells (dB bS) false false))])
def zY(a:aM)(bS:aM):Unit⊕Unit→Ex×Fast×WH:=fun
 |.inl e=>(.ret,[(4,(.bool false))],[])
 |.inr e=>((.exit 2),[],[])
abbrev Vl(a:aM)(bS:aM):=eF [2,3,6] (vw a bS) (zY a bS)
def sJ(a:aM)(bS:aM)(s12:Int):Option ((Int)⊕(Unit⊕Unit)) :=
 cond (decide (s12<(a.fu.length:Int))) ((dH a.fu s12).bind λ(rV:aB)=>(dH bS.fu s12).bind λ(nO:aB)=>cond (!(rV.Client==nO.Client&&(rV.Seq==nO.Seq&&(rV.Answer.Why==nO.Answer.Why&&(rV.Answer.Value==nO.Answer.Value&&true))))) (some (.inr (.inl ()))) (some (.inl (IntKind.i64.wrap (s12+1))))) (some (.inr (.inr ())))
def GD(a:aM)(bS:aM)(s12:Int):Option (Unit⊕Unit):=dG (sJ a bS) KK s12
theorem Xf(d:Nat){a:aM}{bS:aM}{s12:Int}{r:(Int)⊕(Unit⊕Unit)}(h:sJ a bS s12=some r):dx (bF (aQ aT (d+0)) KK 73 alS) 0 (jM [2,3,6] (vw a bS s12)) (Vl a bS r):=by
 unfold sJ at h
 exact bU nB aoQ h (.br 59 (λ_=>.bd λrV YL=>Ix dQ 65 YL<|.bd λnO PZ=>Ix dQ 70 PZ<|.br 72 (λ_=>E0 [4]) λ_=>E0 [2,3,6]) λ_=>E0 [])
theorem KO(d:Nat){a:aM}{bS:aM}{s12:Int}{r:Unit⊕Unit}(h:GD a bS s12=some r):dx (fQ (bF (aQ aT (d+0)) KK 73 alS) [2,3,6] KK) 0 (jM [2,3,6] (vw a bS s12)) (zY a bS r) :=
 dS (st:=vw a bS) (fin:=zY a bS) (step:=sJ a bS) (λe=>by rcases e with e | e<;>(intro h;cases h)) (λs x h=>Xf d h) KK s12 r h
def sK(a:aM)(bS:aM):Option (Bool) :=
 (Ba a bS).bind λ(x1:Unit⊕Unit)=>cond (jY x1) (some false) ((GA a bS 0).bind λ(x8:Unit⊕Unit)=>cond (jY x8) (some false) ((GD a bS 0).bind λ(dP:Unit⊕Unit)=>cond (jY dP) (some false) (some true)))
def Nc(a:aM)(bS:aM)(r:Bool):AV×WH:=((.bool r),[])
theorem Rk(d:Nat){a:aM}{bS:aM}{r:Bool}(h:sK a bS=some r):Spec (aQ aT (d+1)) 64 [(.agg (dB a)),(.agg (dB bS))] [] (Nc a bS r).1 (Nc a bS r).2:=by
 unfold sK at h
 exact bK nB aCX h (.sk<|.bd λx1 q1=>.ite (λhb2=>Jn [2,3] [none,none] [] [] (kI (il hb2) (KM (d+0) q1))<|Fn Fo [] none) λhb2=>Jn [2,3] [none,none] [] [] (kI (Ai hb2) (KM (d+0) q1))<|.bd λx8 q8=>.ite (λhb9=>Lp [none,none,none] [] [] (kI (il hb9) (KN (d+0) q8))<|Fn Fo [] none) λhb9=>Lp [none,none,none] [] [] (kI (Ai hb9) (KN (d+0) q8))<|.bd λdP Md=>.ite (λadp=>Lp [none,none,none] [] [] (kI (il adp) (KO (d+0) Md))<|Fn Fo [] none) λadp=>Lp [none,none,none] [] [] (kI (Ai adp) (KO (d+0) Md))<|Fn Fo [] none)
abbrev TA(bC:aM):Fast×WH:=([(1,(.ptr (some (0,0))))],[(some (.cells (dB bC) false false))])
def Rl(bC:aM):Unit⊕Unit→Ex×Fast×WH:=fun
 |.inl e=>(.ret,[(2,(.bool false))],[])
 |.inr e=>(.normal,[(1,(.ptr (some (0,0))))],[(some (.cells (dB bC) false false))])
def mJ(bC:aM):Option (Unit⊕Unit) :=
 cond (decide (bC.fJ<0)) (some (.inl ())) (cond (decide (bC.fJ≥6)) (some (.inl ())) (cond (decide (bC.Epoch<1)) (some (.inl ())) (cond (decide (bC.Epoch>1099511627776)) (some (.inl ())) (some (.inr ())))))
theorem Jf(d:Nat){bC:aM}{r:Unit⊕Unit}(h:mJ bC=some r):dx (bF (aQ aT (d+0)) KK 113 anG) 0 (TA bC) (Rl bC r):=by
 unfold mJ at h
 exact bU nB al3 h (.br 10 (λ_=>E0 [2]) λ_=>.br 15 (λ_=>E0 [2]) λ_=>.br 20 (λ_=>E0 [2]) λ_=>.br 24 (λ_=>E0 [2]) λ_=>E0 [1])
def tT(bC:aM)(s6:Int):List AV×WH:=([(.ptr (some (0,0))),(.int .i64 s6)],[(some (.cells (dB bC) false false))])
def yc(bC:aM):Unit⊕Unit→Ex×Fast×WH:=fun
 |.inl e=>(.ret,[(2,(.bool false))],[])
 |.inr e=>((.exit 0),[(1,(.ptr (some (0,0))))],[(some (.cells (dB bC) false false))])
abbrev TB(bC:aM):=eF [1,3] (tT bC) (yc bC)
def kR(bC:aM)(s6:Int):Option ((Int)⊕(Unit⊕Unit)) :=
 cond (decide (s6<(bC.Pairs.length:Int))) ((dH bC.Pairs s6).bind λ(x7:aF)=>cond (decide ((x7.Key.length:Int)<1)) (some (.inr (.inl ()))) ((dH bC.Pairs s6).bind λ(x8:aF)=>cond (decide ((x8.Key.length:Int)>8)) (some (.inr (.inl ()))) ((dH bC.Pairs s6).bind λ(x9:aF)=>cond (decide ((x9.Value.length:Int)>16)) (some (.inr (.inl ()))) (some (.inl (IntKind.i64.wrap (s6+1))))))) (some (.inr (.inr ())))
def EF(bC:aM)(s6:Int):Option (Unit⊕Unit):=dG (kR bC) KK s6
theorem Vm(d:Nat){bC:aM}{s6:Int}{r:(Int)⊕(Unit⊕Unit)}(h:kR bC s6=some r):dx (bF (aQ aT (d+0)) KK 113 al4) 0 (jM [1,3] (tT bC s6)) (TB bC r):=by
 unfold kR at h
 exact bU nB ao1 h (.br 29 (λ_=>.bd λx7 q7=>Ix bn 35 q7<|.br 40 (λ_=>E0 [2]) λ_=>.bd λx8 q8=>Ix bn 44 q8<|.br 50 (λ_=>E0 [2]) λ_=>.bd λx9 q9=>Ix bn 54 q9<|.br 59 (λ_=>E0 [2]) λ_=>E0 [1,3]) λ_=>E0 [1])
theorem Jg(d:Nat){bC:aM}{s6:Int}{r:Unit⊕Unit}(h:EF bC s6=some r):dx (fQ (bF (aQ aT (d+0)) KK 113 al4) [1,3] KK) 0 (jM [1,3] (tT bC s6)) (yc bC r) :=
 dS (st:=tT bC) (fin:=yc bC) (step:=kR bC) (λe=>by rcases e with e | e<;>(intro h;cases h)) (λs x h=>Vm d h) KK s6 r h
abbrev TD(dP:aB)(tV:Int)(bC:aM):Fast×WH:=([(1,(.ptr (some (0,0)))),(4,(.int .i64 tV)),(5,(.ptr (some (1,0))))],[(some (.cells (dB bC) false false)),(some (.cells (dM dP) false false))])
def Rm(dP:aB)(tV:Int)(bC:aM):Bool→Ex×Fast×WH:=λe=>(.normal,[(1,(.ptr (some (0,0)))),(4,(.int .i64 tV)),(5,(.ptr (some (1,0)))),(6,(.bool e))],[(some (.cells (dB bC) false false)),(some (.cells (dM dP) false false))])
def zm(dP:aB)(tV:Int)(bC:aM):Option (Bool) :=
 cond (dP.Answer.Why==0) (some true) (cond (dP.Answer.Why==4) (some true) (cond (dP.Answer.Why==5) (some true) (some (dP.Answer.Why==6))))
theorem Vn(d:Nat){dP:aB}{tV:Int}{bC:aM}{r:Bool}(h:zm dP tV bC=some r):dx (bF (aQ aT (d+0)) KK 113 KE) 0 (TD dP tV bC) (Rm dP tV bC r):=by
 unfold zm at h
 exact bU nB QK h (.br 76 (λ_=>E0 [1,4,5,6]) λ_=>.br 82 (λ_=>E0 [1,4,5,6]) λ_=>.br 88 (λ_=>E0 [1,4,5,6]) λ_=>E0 [1,4,5,6])
def tX(bC:aM)(tV:Int):List AV×WH:=([(.ptr (some (0,0))),(.int .i64 tV)],[(some (.cells (dB bC) false false))])
def yg(bC:aM):Unit⊕Unit→Ex×Fast×WH:=fun
 |.inl e=>(.ret,[(2,(.bool false))],[])
 |.inr e=>((.exit 2),[(1,(.ptr (some (0,0))))],[(some (.cells (dB bC) false false))])
abbrev TF(bC:aM):=eF [1,4] (tX bC) (yg bC)
def kS(bC:aM)(tV:Int):Option ((Int)⊕(Unit⊕Unit)) :=
 cond (decide (tV<(bC.fu.length:Int))) ((dH bC.fu tV).bind λ(dP:aB)=>(zm dP tV bC).bind λ(Bz:Bool)=>cond (!Bz) (some (.inr (.inl ()))) (cond (decide (dP.Seq>4611686018427387903)) (some (.inr (.inl ()))) (cond (decide ((dP.Answer.Value.length:Int)>16)) (some (.inr (.inl ()))) (some (.inl (IntKind.i64.wrap (tV+1))))))) (some (.inr (.inr ())))
def EG(bC:aM)(tV:Int):Option (Unit⊕Unit):=dG (kS bC) KK tV
theorem Vo(d:Nat){bC:aM}{tV:Int}{r:(Int)⊕(Unit⊕Unit)}(h:kS bC tV=some r):dx (bF (aQ aT (d+0)) KK 113 al5) 0 (jM [1,4] (tX bC tV)) (TF bC r):=by
 unfold kS at h
 exact bU nB ao2 h (.br 64 (λ_=>.bd λdP Md=>Ix dQ 70 Md<|.st none<|.bd λBz q16=>Jn [1,4,5] [none,none,none] [] [] (Vn (d+0) q16)<|.br 96 (λ_=>E0 [2]) λ_=>.br 101 (λ_=>E0 [2]) λ_=>.br 107 (λ_=>E0 [2]) λ_=>E0 [1,4]) λ_=>E0 [1])
theorem Jh(d:Nat){bC:aM}{tV:Int}{r:Unit⊕Unit}(h:EG bC tV=some r):dx (fQ (bF (aQ aT (d+0)) KK 113 al5) [1,4] KK) 0 (jM [1,4] (tX bC tV)) (yg bC r) :=
 dS (st:=tX bC) (fin:=yg bC) (step:=kS bC) (λe=>by rcases e with e | e<;>(intro h;cases h)) (λs x h=>Vo d h) KK tV r h
def wm(bC:aM):Option (Bool) :=
 (mJ bC).bind λ(x1:Unit⊕Unit)=>cond (jY x1) (some false) ((EF bC 0).bind λ(x10:Unit⊕Unit)=>cond (jY x10) (some false) ((EG bC 0).bind λ(kJ:Unit⊕Unit)=>cond (jY kJ) (some false) ((oL bC).bind λ(qj:bE)=>(xZ qj).bind λ(x20:aM)=>(sK bC x20).bind λ(x21:Bool)=>some x21)))
def KP(bC:aM)(r:Bool):AV×WH:=((.bool r),[])
theorem aaT(d:Nat){bC:aM}{r:Bool}(h:wm bC=some r):Spec (aQ aT (d+5)) 92 [(.agg (dB bC))] [] (KP bC r).1 (KP bC r).2:=by
 unfold wm at h
 exact bK nB aDm h (.sk<|.bd λx1 q1=>.ite (λhb2=>Jn [1] [none] [] [] (kI (il hb2) (Jf (d+4) q1))<|Fn Fo [] none) λhb2=>Jn [1] [none] [] [] (kI (Ai hb2) (Jf (d+4) q1))<|.bd λx10 MG=>.ite (λazG=>Lp [none,none] [] [] (kI (il azG) (Jg (d+4) MG))<|Fn Fo [] none) λazG=>Lp [none,none] [] [] (kI (Ai azG) (Jg (d+4) MG))<|.bd λkJ J4=>.ite (λadq=>Lp [none,none] [] [] (kI (il adq) (Jh (d+4) J4))<|Fn Fo [] none) λadq=>Lp [none,none] [] [] (kI (Ai adq) (Jh (d+4) J4))<|.bd λqj Uq=>Cl [] Fo [.agg [.undef,.undef,.slice none 2 0 0 true,.slice none 4 0 0 true]] (I_ (d+0) Uq)<|.bd λx20 q20=>Cl [] Fo [] (YO (d+3) q20)<|.bd λx21 q21=>Cb [.agg [.undef,.undef,.slice none 2 0 0 true,.slice none 4 0 0 true],.agg [.undef,.undef,.slice none 2 0 0 true,.slice none 4 0 0 true]] (Rk (d+3) q21)<|Fn Fo [] none)
def uM(bC:aM):Option (Bool) :=
 (Hw bC).bind λ(x1:Bool)=>cond x1 (some true) ((wm bC).bind λ(x2:Bool)=>some x2)
def Pb(bC:aM)(r:Bool):AV×WH:=((.bool r),[])
theorem LU(d:Nat){bC:aM}{r:Bool}(h:uM bC=some r):Spec (aQ aT (d+6)) 53 [(.agg (dB bC))] [] (Pb bC r).1 (Pb bC r).2:=by
 unfold uM at h
 exact bK nB aCN h (.bd λx1 q1=>Cb [.agg [.undef,.undef,.slice none 2 0 0 true,.slice none 4 0 0 true]] (ado (d+4) q1)<|.br 5 (λ_=>Fn Fo [] none) λ_=>.bd λx2 q2=>Cb [.agg [.undef,.undef,.slice none 2 0 0 true,.slice none 4 0 0 true]] (aaT (d+0) q2)<|Fn Fo [] none)
def Ji(n:Int):Option (Bool) :=
 cond (decide (n≥0)) (some (decide (n≤4611686018427387903))) (some false)
def adr(n:Int)(r:Bool):AV×WH:=((.bool r),[])
theorem Jj(d:Nat){n:Int}{r:Bool}(h:Ji n=some r):Spec (aQ aT (d+1)) 54 [(.int .i64 n)] [] (adr n r).1 (adr n r).2:=by
 unfold Ji at h
 exact bK nB aCO h (.br 5 (λ_=>Fn Fo [] none) λ_=>Fn Fo [] none)
abbrev Xg(m:aG):Fast×WH:=([(1,(.ptr (some (0,0))))],[(some (.cells (dI m) false false))])
def Vp(m:aG):Unit⊕Unit→Ex×Fast×WH:=fun
 |.inl e=>(.ret,[(2,(.bool false))],[])
 |.inr e=>(.normal,[(1,(.ptr (some (0,0))))],[(some (.cells (dI m) false false))])
def Di(m:aG):Option (Unit⊕Unit) :=
 cond (decide (m.Kind<1)) (some (.inl ())) (cond (decide (m.Kind>10)) (some (.inl ())) (cond (decide ((m.Path.length:Int)>5)) (some (.inl ())) (cond (decide ((m.Table.length:Int)>5)) (some (.inl ())) ((rW m.Ef).bind λ(x1:Bool)=>cond (!x1) (some (.inl ())) ((vk m.Answer).bind λ(x2:Bool)=>cond (!x2) (some (.inl ())) ((uM m.qg).bind λ(x3:Bool)=>cond (!x3) (some (.inl ())) (some (.inr ()))))))))
theorem Nf(d:Nat){m:aG}{r:Unit⊕Unit}(h:Di m=some r):dx (bF (aQ aT (d+6)) KK 120 anx) 0 (Xg m) (Vp m r):=by
 unfold Di at h
 exact bU nB alh h (.br 11 (λ_=>E0 [2]) λ_=>.br 16 (λ_=>E0 [2]) λ_=>.br 22 (λ_=>E0 [2]) λ_=>.br 28 (λ_=>E0 [2]) λ_=>.bd λx1 q1=>jw (FM (d+3) q1)<|.br 34 (λ_=>E0 [2]) λ_=>.bd λx2 q2=>jw (Je (d+5) q2)<|.br 40 (λ_=>E0 [2]) λ_=>.bd λx3 q3=>Cb [.agg [.undef,.undef,.slice none 2 0 0 true,.slice none 4 0 0 true]] (LU (d+0) q3)<|.br 45 (λ_=>E0 [2]) λ_=>E0 [1])
def wT(m:aG)(s8:Int):List AV×WH:=([(.ptr (some (0,0))),(.agg [(.int .i64 m.From),(.int .i64 m.To),(.int .i64 m.fJ),(.int .i64 m.Epoch),(.int .i64 m.Weight),(.int .i64 m.Load),(.int .i64 m.ou)]),(.int .i64 s8)],[(some (.cells (dI m) false false))])
def BD(m:aG):Unit⊕Unit→Ex×Fast×WH:=fun
 |.inl e=>(.ret,[(2,(.bool false))],[])
 |.inr e=>((.exit 0),[(1,(.ptr (some (0,0))))],[(some (.cells (dI m) false false))])
abbrev Xh(m:aG):=eF [1,60,61] (wT m) (BD m)
def uo(m:aG)(s8:Int):Option ((Int)⊕(Unit⊕Unit)) :=
 cond (decide (s8<7)) ((dH ([m.From,m.To,m.fJ,m.Epoch,m.Weight,m.Load,m.ou]:List Int) s8).bind λ(x9:Int)=>(Ji x9).bind λ(x10:Bool)=>cond (!x10) (some (.inr (.inl ()))) (some (.inl (IntKind.i64.wrap (s8+1))))) (some (.inr (.inr ())))
def Jk(m:aG)(s8:Int):Option (Unit⊕Unit):=dG (uo m) KK s8
theorem YU(d:Nat){m:aG}{s8:Int}{r:(Int)⊕(Unit⊕Unit)}(h:uo m s8=some r):dx (bF (aQ aT (d+1)) KK 120 ali) 0 (jM [1,60,61] (wT m s8)) (Xh m r):=by
 unfold uo at h
 exact bU nB aon h (.br 62 (λ_=>.bd λx9 q9=>.v 63 (.int .i64 x9)<|.ob (aqt Lc q9:wP (.index false 7 1 (.c (.agg [(.int .i64 m.From),(.int .i64 m.To),(.int .i64 m.fJ),(.int .i64 m.Epoch),(.int .i64 m.Weight),(.int .i64 m.Load),(.int .i64 m.ou)])) (.c (.int .i64 s8)))=some (.int .i64 x9))<|.bd λx10 MG=>jw (Jj (d+0) MG)<|.br 66 (λ_=>E0 [2]) λ_=>E0 [1,60,61]) λ_=>E0 [1])
theorem Ng(d:Nat){m:aG}{s8:Int}{r:Unit⊕Unit}(h:Jk m s8=some r):dx (fQ (bF (aQ aT (d+1)) KK 120 ali) [1,60,61] KK) 0 (jM [1,60,61] (wT m s8)) (BD m r) :=
 dS (st:=wT m) (fin:=BD m) (step:=uo m) (λe=>by rcases e with e | e<;>(intro h;cases h)) (λs x h=>YU d h) KK s8 r h
def wU(m:aG)(s15:Int):List AV×WH:=([(.ptr (some (0,0))),(.int .i64 s15)],[(some (.cells (dI m) false false))])
def BF(m:aG):Unit⊕Unit→Ex×Fast×WH:=fun
 |.inl e=>(.ret,[(2,(.bool false))],[])
 |.inr e=>((.exit 2),[(1,(.ptr (some (0,0))))],[(some (.cells (dI m) false false))])
abbrev Xi(m:aG):=eF [1,5] (wU m) (BF m)
def pQ(m:aG)(s15:Int):Option ((Int)⊕(Unit⊕Unit)) :=
 cond (decide (s15<(m.Path.length:Int))) ((dH m.Path s15).bind λ(Bz:Int)=>(Ji Bz).bind λ(kJ:Bool)=>cond (!kJ) (some (.inr (.inl ()))) (some (.inl (IntKind.i64.wrap (s15+1))))) (some (.inr (.inr ())))
def Jl(m:aG)(s15:Int):Option (Unit⊕Unit):=dG (pQ m) KK s15
theorem YV(d:Nat){m:aG}{s15:Int}{r:(Int)⊕(Unit⊕Unit)}(h:pQ m s15=some r):dx (bF (aQ aT (d+1)) KK 120 alj) 0 (jM [1,5] (wU m s15)) (Xi m r):=by
 unfold pQ at h
 exact bU nB aoo h (.br 72 (λ_=>.bd λBz q16=>Ix Lc 78 q16<|.bd λkJ J4=>jw (Jj (d+0) J4)<|.br 81 (λ_=>E0 [2]) λ_=>E0 [1,5]) λ_=>E0 [1])
theorem Nh(d:Nat){m:aG}{s15:Int}{r:Unit⊕Unit}(h:Jl m s15=some r):dx (fQ (bF (aQ aT (d+1)) KK 120 alj) [1,5] KK) 0 (jM [1,5] (wU m s15)) (BF m r) :=
 dS (st:=wU m) (fin:=BF m) (step:=pQ m) (λe=>by rcases e with e | e<;>(intro h;cases h)) (λs x h=>YV d h) KK s15 r h
def wV(m:aG)(s24:Int):List AV×WH:=([(.ptr (some (0,0))),(.int .i64 s24)],[(some (.cells (dI m) false false))])
def BG(m:aG):Unit⊕Unit→Ex×Fast×WH:=fun
 |.inl e=>(.ret,[(2,(.bool false))],[])
 |.inr e=>((.exit 4),[],[])
abbrev Xj(m:aG):=eF [1,6] (wV m) (BG m)
def pR(m:aG)(s24:Int):Option ((Int)⊕(Unit⊕Unit)) :=
 cond (decide (s24<(m.Table.length:Int))) ((dH m.Table s24).bind λ(x25:aI)=>(Ji x25.Inc).bind λ(jL:Bool)=>cond (!jL) (some (.inr (.inl ()))) (cond (decide (x25.Status<0)) (some (.inr (.inl ()))) (cond (decide (x25.Status>2)) (some (.inr (.inl ()))) ((Ji x25.rG).bind λ(x27:Bool)=>cond (!x27) (some (.inr (.inl ()))) ((Ji x25.Load).bind λ(x28:Bool)=>cond (!x28) (some (.inr (.inl ()))) (some (.inl (IntKind.i64.wrap (s24+1))))))))) (some (.inr (.inr ())))
def Jm(m:aG)(s24:Int):Option (Unit⊕Unit):=dG (pR m) KK s24
theorem YW(d:Nat){m:aG}{s24:Int}{r:(Int)⊕(Unit⊕Unit)}(h:pR m s24=some r):dx (bF (aQ aT (d+1)) KK 120 alk) 0 (jM [1,6] (wV m s24)) (Xj m r):=by
 unfold pR at h
 exact bU nB aoq h (.br 86 (λ_=>.bd λx25 q25=>Ix lX 92 q25<|.st none<|.bd λjL q26=>jw (Jj (d+0) q26)<|.br 98 (λ_=>E0 [2]) λ_=>.br 103 (λ_=>E0 [2]) λ_=>.br 108 (λ_=>E0 [2]) λ_=>.bd λx27 q27=>jw (Jj (d+0) q27)<|.br 114 (λ_=>E0 [2]) λ_=>.bd λx28 q28=>jw (Jj (d+0) q28)<|.br 119 (λ_=>E0 [2]) λ_=>E0 [1,6]) λ_=>E0 [])
theorem Ni(d:Nat){m:aG}{s24:Int}{r:Unit⊕Unit}(h:Jm m s24=some r):dx (fQ (bF (aQ aT (d+1)) KK 120 alk) [1,6] KK) 0 (jM [1,6] (wV m s24)) (BG m r) :=
 dS (st:=wV m) (fin:=BG m) (step:=pR m) (λe=>by rcases e with e | e<;>(intro h;cases h)) (λs x h=>YW d h) KK s24 r h
def uN(m:aG):Option (Bool) :=
 (Di m).bind λ(x4:Unit⊕Unit)=>cond (jY x4) (some false) ((Jk m 0).bind λ(dV:Unit⊕Unit)=>cond (jY dV) (some false) ((Jl m 0).bind λ(x18:Unit⊕Unit)=>cond (jY x18) (some false) ((Jm m 0).bind λ(x29:Unit⊕Unit)=>cond (jY x29) (some false) (some true))))
def Pf(m:aG)(r:Bool):AV×WH:=((.bool r),[])
theorem LV(d:Nat){m:aG}{r:Bool}(h:uN m=some r):Spec (aQ aT (d+7)) 11 [(.agg (dI m))] [] (Pf m r).1 (Pf m r).2:=by
 unfold uN at h
 exact bK nB aCd h (.sk<|.bd λx4 q4=>.ite (λhb5=>Jn [1] [none] [] [] (kI (il hb5) (Nf (d+0) q4))<|Fn Fo [] none) λhb5=>Jn [1] [none] [] [] (kI (Ai hb5) (Nf (d+0) q4))<|.bd λdV J5=>.ite (λVh=>Lp [none,none,none] [] [] (kI (il Vh) (Ng (d+5) J5))<|Fn Fo [] none) λVh=>Lp [none,none,none] [] [] (kI (Ai Vh) (Ng (d+5) J5))<|.bd λx18 YM=>.ite (λamu=>Lp [none,none] [] [] (kI (il amu) (Nh (d+5) YM))<|Fn Fo [] none) λamu=>Lp [none,none] [] [] (kI (Ai amu) (Nh (d+5) YM))<|.bd λx29 q29=>.ite (λamv=>Lp [none,none] [] [] (kI (il amv) (Ni (d+5) q29))<|Fn Fo [] none) λamv=>Lp [none,none] [] [] (kI (Ai amv) (Ni (d+5) q29))<|Fn Fo [] none)
def Xk(bS:Bool):Option (Int) :=
 cond bS (some 1) (some 0)
def aah(bS:Bool)(r:Int):AV×WH:=((.int .i64 r),[])
theorem agf(d:Nat){bS:Bool}{r:Int}(h:Xk bS=some r):Spec (aQ aT (d+1)) 39 [(.bool bS)] [] (aah bS r).1 (aah bS r).2:=by
 unfold Xk at h
 exact bK nB aCz h (.br 3 (λ_=>Fn Fo [] none) λ_=>Fn Fo [] none)
def Hy(l:List Int)(s9:Int×List UInt8)(s13:Int×List UInt8):List AV×WH:=([(Lg l),(.acc 0 0 1 s13.2.length true),(.int .i64 s9.1),(.int .i64 s13.1)],[(some (.cells (PW s13.2) false true))])
def LW(l:List Int)(s9:Int×List UInt8):(Int×List UInt8)→Ex×Fast×WH:=λe=>((.exit 2),[(1,(Lg l)),(5,(.acc 0 0 1 e.2.length true)),(6,(.int .i64 s9.1)),(7,(.int .i64 e.1))],[(some (.cells (PW e.2) false true))])
abbrev ahE(l:List Int)(s9:Int×List UInt8):=eF [1,5,6,7] (Hy l s9) (LW l s9)
def KQ(l:List Int)(s9:Int×List UInt8)(s13:Int×List UInt8):Option ((Int×List UInt8)⊕((Int×List UInt8))) :=
 cond (decide (s13.1≥128)) (gd (dR 1 (s13.2++[(Gq (IntKind.i64.wrap (128+(Int.tmod s13.1 128))))]).length) (some (.inl ((IntKind.i64.wrap (Int.tdiv s13.1 128)),(s13.2++[(Gq (IntKind.i64.wrap (128+(Int.tmod s13.1 128))))]))))) (some (.inr (s13.1,s13.2)))
def agh(l:List Int)(s9:Int×List UInt8)(s13:Int×List UInt8):Option ((Int×List UInt8)):=dG (KQ l s9) KK s13
theorem ajZ(d:Nat){l:List Int}{s9:Int×List UInt8}{s13:Int×List UInt8}{r:(Int×List UInt8)⊕((Int×List UInt8))}(h:KQ l s9 s13=some r):dx (bF (aQ aT (d+0)) KK 41 acP) 0 (jM [1,5,6,7] (Hy l s9 s13)) (ahE l s9 r):=by
 unfold KQ at h
 exact bU nB afP h (.br 25 (λ_=>.v 30 (.int .u8 ((Gq (IntKind.i64.wrap (128+(Int.tmod s13.1 128)))).toNat:Int))<|.ob (agZ _:@Eq (Option AV) (some (.int .u8 (IntKind.u8.wrap (IntKind.i64.wrap (128+(Int.tmod s13.1 128)))))) (some (.int .u8 ((Gq (IntKind.i64.wrap (128+(Int.tmod s13.1 128)))).toNat:Int))))<|.gd λPZ=>Ap Yf 32 PZ<|E0 [1,5,6,7]) λ_=>E0 [1,5,6,7])
theorem aj0(d:Nat){l:List Int}{s9:Int×List UInt8}{s13:Int×List UInt8}{r:(Int×List UInt8)}(h:agh l s9 s13=some r):dx (fQ (bF (aQ aT (d+0)) KK 41 acP) [1,5,6,7] KK) 0 (jM [1,5,6,7] (Hy l s9 s13)) (LW l s9 r) :=
 dS (st:=Hy l s9) (fin:=LW l s9) (step:=KQ l s9) (λe=>by(intro h;cases h)) (λs x h=>ajZ d h) KK s13 r h
def Hz(l:List Int)(s9:Int×List UInt8):List AV×WH:=([(Lg l),(.acc 0 0 1 s9.2.length true),(.int .i64 s9.1)],[(some (.cells (PW s9.2) false true))])
def LX(l:List Int):Unit⊕(List UInt8)→Ex×Fast×WH:=fun
 |.inl e=>(.ret,[(4,(.slice none 1 0 0 true))],[])
 |.inr e=>((.exit 0),[(5,(.acc 0 0 1 e.length true))],[(some (.cells (PW e) false true))])
abbrev ahF(l:List Int):=eF [1,5,6] (Hz l) (LX l)
def KR(l:List Int)(s9:Int×List UInt8):Option ((Int×List UInt8)⊕(Unit⊕(List UInt8))) :=
 cond (decide (s9.1<(l.length:Int))) ((dH l s9.1).bind λ(x10:Int)=>(Ji x10).bind λ(dV:Bool)=>cond (!dV) (some (.inr (.inl ()))) ((agh l s9 (x10,s9.2)).bind λ(dP:(Int×List UInt8))=>gd (dR 1 (dP.2++[(Gq dP.1)]).length) (some (.inl ((IntKind.i64.wrap (s9.1+1)),(dP.2++[(Gq dP.1)])))))) (some (.inr (.inr s9.2)))
def agi(l:List Int)(s9:Int×List UInt8):Option (Unit⊕(List UInt8)):=dG (KR l) KK s9
theorem aj1(d:Nat){l:List Int}{s9:Int×List UInt8}{r:(Int×List UInt8)⊕(Unit⊕(List UInt8))}(h:KR l s9=some r):dx (bF (aQ aT (d+1)) KK 41 acO) 0 (jM [1,5,6] (Hz l s9)) (ahF l r):=by
 unfold KR at h
 exact bU nB afO h (.br 14 (λ_=>.bd λx10 MG=>Ix Lc 19 MG<|.bd λdV J5=>jw (Jj (d+0) J5)<|.br 23 (λ_=>E0 [4]) λ_=>.bd λdP Md=>Lp [none,none,none,none] [] [] (aj0 (d+1) Md)<|.v 37 (.int .u8 ((Gq dP.1).toNat:Int))<|.ob (agZ _:@Eq (Option AV) (some (.int .u8 (IntKind.u8.wrap dP.1))) (some (.int .u8 ((Gq dP.1).toNat:Int))))<|.gd λq16=>Ap Yf 39 q16<|E0 [1,5,6]) λ_=>E0 [5])
theorem aai(d:Nat){l:List Int}{s9:Int×List UInt8}{r:Unit⊕(List UInt8)}(h:agi l s9=some r):dx (fQ (bF (aQ aT (d+1)) KK 41 acO) [1,5,6] KK) 0 (jM [1,5,6] (Hz l s9)) (LX l r) :=
 dS (st:=Hz l) (fin:=LX l) (step:=KR l) (λe=>by rcases e with e | e<;>(intro h;cases h)) (λs x h=>aj1 d h) KK s9 r h
def EH(bS:List UInt8)(l:List Int):Option (List UInt8) :=
 gd (dR 1 bS.length) ((agi l (0,bS)).bind λ(kJ:Unit⊕(List UInt8))=>cond (jY kJ) (some []) (some (Ob kJ)))
def ads(bS:List UInt8)(l:List Int)(r:List UInt8):AV×WH:=((rC r),[])
theorem Av(d:Nat){bS:List UInt8}{l:List Int}{r:List UInt8}(h:EH bS l=some r):Spec (aQ aT (d+2)) 38 [(rC bS),(Lg l)] [] (ads bS l r).1 (ads bS l r).2:=by
 unfold EH at h
 exact bK nB aAO h (.gd λq1=>Ap0 Yf 10 q1<|.bd λkJ J4=>.ite (λadq=>Lp [none,none,none] [] [] (kI (il adq) (aai (d+0) J4))<|Fn Fo [] none) λadq=>Lp [none,none,none] [] [] (kI (Ai adq) (aai (d+0) J4))<|Fn Fo [] none)
def Dj(l:List Int)(s9:Int×List UInt8)(s13:Int×List UInt8):List AV×WH:=([(Lg l),(.acc 0 0 1 s13.2.length true),(.int .i64 s9.1),(.int .i64 s13.1)],[(some (.cells (PW s13.2) false true))])
def GH(l:List Int)(s9:Int×List UInt8):(Int×List UInt8)→Ex×Fast×WH:=λe=>((.exit 2),[(1,(Lg l)),(5,(.acc 0 0 1 e.2.length true)),(6,(.int .i64 s9.1)),(7,(.int .i64 e.1))],[(some (.cells (PW e.2) false true))])
abbrev adt(l:List Int)(s9:Int×List UInt8):=eF [1,5,6,7] (Dj l s9) (GH l s9)
def nu(l:List Int)(s9:Int×List UInt8)(s13:Int×List UInt8):Option ((Int×List UInt8)⊕((Int×List UInt8))) :=
 cond (decide (s13.1≥128)) (gd (dR 1 (s13.2++[(Gq (IntKind.i64.wrap (128+(Int.tmod s13.1 128))))]).length) (some (.inl ((IntKind.i64.wrap (Int.tdiv s13.1 128)),(s13.2++[(Gq (IntKind.i64.wrap (128+(Int.tmod s13.1 128))))]))))) (some (.inr (s13.1,s13.2)))
def Rn(l:List Int)(s9:Int×List UInt8)(s13:Int×List UInt8):Option ((Int×List UInt8)):=dG (nu l s9) KK s13
theorem aeL(d:Nat){l:List Int}{s9:Int×List UInt8}{s13:Int×List UInt8}{r:(Int×List UInt8)⊕((Int×List UInt8))}(h:nu l s9 s13=some r):dx (bF (aQ aT (d+0)) KK 41 acP) 0 (jM [1,5,6,7] (Dj l s9 s13)) (adt l s9 r):=by
 unfold nu at h
 exact bU nB afP h (.br 25 (λ_=>.v 30 (.int .u8 ((Gq (IntKind.i64.wrap (128+(Int.tmod s13.1 128)))).toNat:Int))<|.ob (agZ _:@Eq (Option AV) (some (.int .u8 (IntKind.u8.wrap (IntKind.i64.wrap (128+(Int.tmod s13.1 128)))))) (some (.int .u8 ((Gq (IntKind.i64.wrap (128+(Int.tmod s13.1 128)))).toNat:Int))))<|.gd λPZ=>Ap Yf 32 PZ<|E0 [1,5,6,7]) λ_=>E0 [1,5,6,7])
theorem aeM(d:Nat){l:List Int}{s9:Int×List UInt8}{s13:Int×List UInt8}{r:(Int×List UInt8)}(h:Rn l s9 s13=some r):dx (fQ (bF (aQ aT (d+0)) KK 41 acP) [1,5,6,7] KK) 0 (jM [1,5,6,7] (Dj l s9 s13)) (GH l s9 r) :=
 dS (st:=Dj l s9) (fin:=GH l s9) (step:=nu l s9) (λe=>by(intro h;cases h)) (λs x h=>aeL d h) KK s13 r h
def Dk(l:List Int)(s9:Int×List UInt8):List AV×WH:=([(Lg l),(.acc 0 0 1 s9.2.length true),(.int .i64 s9.1)],[(some (.cells (PW s9.2) false true))])
def GI(l:List Int):Unit⊕(List UInt8)→Ex×Fast×WH:=fun
 |.inl e=>(.ret,[(4,(.slice none 1 0 0 true))],[])
 |.inr e=>((.exit 0),[(5,(.acc 0 0 1 e.length true))],[(some (.cells (PW e) false true))])
abbrev adu(l:List Int):=eF [1,5,6] (Dk l) (GI l)
def Aw(l:List Int)(s9:Int×List UInt8):Option ((Int×List UInt8)⊕(Unit⊕(List UInt8))) :=
 cond (decide (s9.1<(l.length:Int))) ((dH l s9.1).bind λ(x10:Int)=>(Ji x10).bind λ(dV:Bool)=>cond (!dV) (some (.inr (.inl ()))) ((Rn l s9 (x10,s9.2)).bind λ(dP:(Int×List UInt8))=>gd (dR 1 (dP.2++[(Gq dP.1)]).length) (some (.inl ((IntKind.i64.wrap (s9.1+1)),(dP.2++[(Gq dP.1)])))))) (some (.inr (.inr s9.2)))
def Ro(l:List Int)(s9:Int×List UInt8):Option (Unit⊕(List UInt8)):=dG (Aw l) KK s9
theorem aeN(d:Nat){l:List Int}{s9:Int×List UInt8}{r:(Int×List UInt8)⊕(Unit⊕(List UInt8))}(h:Aw l s9=some r):dx (bF (aQ aT (d+1)) KK 41 acO) 0 (jM [1,5,6] (Dk l s9)) (adu l r):=by
 unfold Aw at h
 exact bU nB afO h (.br 14 (λ_=>.bd λx10 MG=>Ix Lc 19 MG<|.bd λdV J5=>jw (Jj (d+0) J5)<|.br 23 (λ_=>E0 [4]) λ_=>.bd λdP Md=>Lp [none,none,none,none] [] [] (aeM (d+1) Md)<|.v 37 (.int .u8 ((Gq dP.1).toNat:Int))<|.ob (agZ _:@Eq (Option AV) (some (.int .u8 (IntKind.u8.wrap dP.1))) (some (.int .u8 ((Gq dP.1).toNat:Int))))<|.gd λq16=>Ap Yf 39 q16<|E0 [1,5,6]) λ_=>E0 [5])
theorem Uu(d:Nat){l:List Int}{s9:Int×List UInt8}{r:Unit⊕(List UInt8)}(h:Ro l s9=some r):dx (fQ (bF (aQ aT (d+1)) KK 41 acO) [1,5,6] KK) 0 (jM [1,5,6] (Dk l s9)) (GI l r) :=
 dS (st:=Dk l) (fin:=GI l) (step:=Aw l) (λe=>by rcases e with e | e<;>(intro h;cases h)) (λs x h=>aeN d h) KK s9 r h
def Rp(bS:List UInt8)(l:List Int):Option (List UInt8) :=
 gd (dR 1 bS.length) ((Ro l (0,bS)).bind λ(kJ:Unit⊕(List UInt8))=>cond (jY kJ) (some []) (some (Ob kJ)))
def zn(bS:List UInt8)(l:List Int)(r:List UInt8):AV×WH:=((.acc 0 0 1 r.length true),[(some (.cells (PW r) false true))])
theorem amw(d:Nat){bS:List UInt8}{l:List Int}{r:List UInt8}(h:Rp bS l=some r):Spec (aQ aT (d+2)) 38 [(rC bS),(Lg l)] [] (zn bS l r).1 (zn bS l r).2:=by
 unfold Rp at h
 exact bK nB aAO h (.gd λq1=>Ap0 Yf 10 q1<|.bd λkJ J4=>.ite (λadq=>Lp [none,none,none] [] [] (kI (il adq) (Uu (d+0) J4))<|.zN (.fin (some true) [] none) _ (λr=>@Eq AV (.acc 0 0 1 0 true) (zn bS l r).1∧@Eq WH [(some (.cells (PW []) false true))] (zn bS l r).2) (by show _∧_;refine⟨?_, ?_⟩<;>first | rfl |(simp only[zn,bB,aD,List.length_replicate,bA,bN,bf,aZ,Nat.add_zero,Nat.zero_add];done) | simp[zn])) λadq=>Lp [none,none,none] [] [] (kI (Ai adq) (Uu (d+0) J4))<|Fn Tw [] none)
def Fe(l:List (List UInt8))(s6:Int×List UInt8):List AV×WH:=([(l_S l),(.acc 0 0 1 s6.2.length true),(.int .i64 s6.1)],[(some (.cells (PW s6.2) false true))])
def Jo(l:List (List UInt8)):(List UInt8)→Ex×Fast×WH:=λe=>((.exit 0),[(5,(.acc 0 0 1 e.length true))],[(some (.cells (PW e) false true))])
abbrev aeO(l:List (List UInt8)):=eF [1,5,6] (Fe l) (Jo l)
def vB(l:List (List UInt8))(s6:Int×List UInt8):Option ((Int×List UInt8)⊕((List UInt8))) :=
 cond (decide (s6.1<(l.length:Int))) ((dH l s6.1).bind λ(x7:List UInt8)=>(Rp s6.2 ([(x7.length:Int)])).bind λ(x8:List UInt8)=>(dH l s6.1).bind λ(x9:List UInt8)=>gd (dR 1 (x8++x9).length) (some (.inl ((IntKind.i64.wrap (s6.1+1)),(x8++x9))))) (some (.inr s6.2))
def Vq(l:List (List UInt8))(s6:Int×List UInt8):Option ((List UInt8)):=dG (vB l) KK s6
theorem ahG(d:Nat){l:List (List UInt8)}{s6:Int×List UInt8}{r:(Int×List UInt8)⊕((List UInt8))}(h:vB l s6=some r):dx (bF (aQ aT (d+2)) KK 30 alX) 0 (jM [1,5,6] (Fe l s6)) (aeO l r):=by
 unfold vB at h
 exact bU nB aoW h (.br 13 (λ_=>.bd λx7 q7=>Ix R_S 19 q7<|.bd λx8 q8=>Cl [] Fo [] (amw (d+0) q8)<|.bd λx9 q9=>Ix R_S 26 q9<|.gd λMG=>Ap Yf 28 MG<|E0 [1,5,6]) λ_=>E0 [5])
theorem ahH(d:Nat){l:List (List UInt8)}{s6:Int×List UInt8}{r:(List UInt8)}(h:Vq l s6=some r):dx (fQ (bF (aQ aT (d+2)) KK 30 alX) [1,5,6] KK) 0 (jM [1,5,6] (Fe l s6)) (Jo l r) :=
 dS (st:=Fe l) (fin:=Jo l) (step:=vB l) (λe=>by(intro h;cases h)) (λs x h=>ahG d h) KK s6 r h
def Oq(bS:List UInt8)(l:List (List UInt8)):Option (List UInt8) :=
 gd (dR 1 bS.length) ((Vq l (0,bS)).bind λ(dV:(List UInt8))=>some dV)
def aaj(bS:List UInt8)(l:List (List UInt8))(r:List UInt8):AV×WH:=((rC r),[])
theorem YX(d:Nat){bS:List UInt8}{l:List (List UInt8)}{r:List UInt8}(h:Oq bS l=some r):Spec (aQ aT (d+3)) 85 [(rC bS),(l_S l)] [] (aaj bS l r).1 (aaj bS l r).2:=by
 unfold Oq at h
 exact bK nB aDf h (.gd λq1=>Ap0 Yf 9 q1<|.bd λdV J5=>Lp [none,none,none] [] [] (ahH (d+0) J5)<|Fn Fo [] none)
def Nj(bS:List UInt8)(p_r:bJ):Option (List UInt8) :=
 (rW p_r).bind λ(x1:Bool)=>cond (!x1) (some []) ((EH bS ([p_r.Client,p_r.Seq,p_r.Op.Kind])).bind λ(x2:List UInt8)=>(Oq x2 ([p_r.Op.Key,p_r.Op.Value,p_r.Op.Old])).bind λ(x3:List UInt8)=>some x3)
def Uv(bS:List UInt8)(p_r:bJ)(r:List UInt8):AV×WH:=((rC r),[])
theorem aj2(d:Nat){bS:List UInt8}{p_r:bJ}{r:List UInt8}(h:Nj bS p_r=some r):Spec (aQ aT (d+4)) 41 [(rC bS),(.agg (wh p_r))] [] (Uv bS p_r r).1 (Uv bS p_r r).2:=by
 unfold Nj at h
 exact bK nB aCB h (.bd λx1 q1=>jw (FM (d+0) q1)<|.br 7 (λ_=>Fn Fo [] none) λ_=>.bd λx2 q2=>Cl [] Fo [] (Av (d+1) q2)<|.bd λx3 q3=>Cl [] Fo [] (YX (d+0) q3)<|Fn Fo [] none)
def zo(bS:List UInt8)(a:aJ):Option (List UInt8) :=
 (vk a).bind λ(x1:Bool)=>cond (!x1) (some []) ((EH bS [a.Why]).bind λ(x2:List UInt8)=>(Oq x2 [a.Value]).bind λ(x3:List UInt8)=>some x3)
def Nk(bS:List UInt8)(a:aJ)(r:List UInt8):AV×WH:=((rC r),[])
theorem Rq(d:Nat){bS:List UInt8}{a:aJ}{r:List UInt8}(h:zo bS a=some r):Spec (aQ aT (d+4)) 40 [(rC bS),(.agg (fM a))] [] (Nk bS a r).1 (Nk bS a r).2:=by
 unfold zo at h
 exact bK nB aCA h (.bd λx1 q1=>jw (Je (d+2) q1)<|.br 7 (λ_=>Fn Fo [] none) λ_=>.bd λx2 q2=>Cl [] Fo [] (Av (d+1) q2)<|.bd λx3 q3=>Cl [] Fo [] (YX (d+0) q3)<|Fn Fo [] none)
def wW(bC:aM)(s6:List UInt8×Int):List AV×WH:=([(.ptr (some (0,0))),(rC s6.1),(.int .i64 s6.2)],[(some (.cells (dB bC) false false))])
def BH(bC:aM):(List UInt8)→Ex×Fast×WH:=λe=>((.exit 0),[(3,(.ptr (some (0,0)))),(5,(rC e))],[(some (.cells (dB bC) false false))])
abbrev Xl(bC:aM):=eF [3,5,6] (wW bC) (BH bC)
def pU(bC:aM)(s6:List UInt8×Int):Option ((List UInt8×Int)⊕((List UInt8))) :=
 cond (decide (s6.2<(bC.Pairs.length:Int))) ((dH bC.Pairs s6.2).bind λ(x7:aF)=>(dH bC.Pairs s6.2).bind λ(x8:aF)=>(Oq s6.1 ([x7.Key,x8.Value])).bind λ(x9:List UInt8)=>some (.inl (x9,(IntKind.i64.wrap (s6.2+1))))) (some (.inr s6.1))
def Dl(bC:aM)(s6:List UInt8×Int):Option ((List UInt8)):=dG (pU bC) KK s6
theorem YZ(d:Nat){bC:aM}{s6:List UInt8×Int}{r:(List UInt8×Int)⊕((List UInt8))}(h:pU bC s6=some r):dx (bF (aQ aT (d+3)) KK 79 alI) 0 (jM [3,5,6] (wW bC s6)) (Xl bC r):=by
 unfold pU at h
 exact bU nB aoF h (.br 25 (λ_=>.bd λx7 q7=>Ix bn 32 q7<|.bd λx8 q8=>Ix bn 38 q8<|.bd λx9 q9=>Cl [] Fo [] (YX (d+0) q9)<|E0 [3,5,6]) λ_=>E0 [3,5])
theorem Y0(d:Nat){bC:aM}{s6:List UInt8×Int}{r:(List UInt8)}(h:Dl bC s6=some r):dx (fQ (bF (aQ aT (d+3)) KK 79 alI) [3,5,6] KK) 0 (jM [3,5,6] (wW bC s6)) (BH bC r) :=
 dS (st:=wW bC) (fin:=BH bC) (step:=pU bC) (λe=>by(intro h;cases h)) (λs x h=>YZ d h) KK s6 r h
def wX(bC:aM)(Bb:List UInt8×Int):List AV×WH:=([(.ptr (some (0,0))),(rC Bb.1),(.int .i64 Bb.2)],[(some (.cells (dB bC) false false))])
def BI(bC:aM):(List UInt8)→Ex×Fast×WH:=λe=>((.exit 2),[(5,(rC e))],[])
abbrev Xm(bC:aM):=eF [3,5,7] (wX bC) (BI bC)
def pV(bC:aM)(Bb:List UInt8×Int):Option ((List UInt8×Int)⊕((List UInt8))) :=
 cond (decide (Bb.2<(bC.fu.length:Int))) ((dH bC.fu Bb.2).bind λ(x18:aB)=>(dH bC.fu Bb.2).bind λ(qj:aB)=>(EH Bb.1 ([x18.Client,qj.Seq])).bind λ(x20:List UInt8)=>(dH bC.fu Bb.2).bind λ(x21:aB)=>(zo x20 x21.Answer).bind λ(I9:List UInt8)=>some (.inl (I9,(IntKind.i64.wrap (Bb.2+1))))) (some (.inr Bb.1))
def Dm(bC:aM)(Bb:List UInt8×Int):Option ((List UInt8)):=dG (pV bC) KK Bb
theorem Y1(d:Nat){bC:aM}{Bb:List UInt8×Int}{r:(List UInt8×Int)⊕((List UInt8))}(h:pV bC Bb=some r):dx (bF (aQ aT (d+4)) KK 79 alJ) 0 (jM [3,5,7] (wX bC Bb)) (Xm bC r):=by
 unfold pV at h
 exact bU nB aoG h (.br 53 (λ_=>.bd λx18 YM=>Ix dQ 60 YM<|.bd λqj Uq=>Ix dQ 66 Uq<|.bd λx20 q20=>Cl [] Fo [] (Av (d+2) q20)<|.er<|.ob (rfl:@Eq (Option AV) (some (dY bC.fu)) (some (dY bC.fu)))<|.bd λx21 q21=>Ix dQ 74 q21<|.bd λI9 q22=>Cl [] Fo [] (Rq (d+0) q22)<|E0 [3,5,7]) λ_=>E0 [5])
theorem Y2(d:Nat){bC:aM}{Bb:List UInt8×Int}{r:(List UInt8)}(h:Dm bC Bb=some r):dx (fQ (bF (aQ aT (d+4)) KK 79 alJ) [3,5,7] KK) 0 (jM [3,5,7] (wX bC Bb)) (BI bC r) :=
 dS (st:=wX bC) (fin:=BI bC) (step:=pV bC) (λe=>by(intro h;cases h)) (λs x h=>Y1 d h) KK Bb r h
def FU(bS:List UInt8)(bC:aM):Option (List UInt8) :=
 (uM bC).bind λ(x1:Bool)=>cond (!x1) (some []) ((EH bS ([bC.fJ,bC.Epoch,(bC.Pairs.length:Int)])).bind λ(x2:List UInt8)=>(Dl bC (x2,0)).bind λ(x10:(List UInt8))=>(EH x10 ([(bC.fu.length:Int)])).bind λ(dV:List UInt8)=>(Dm bC (dV,0)).bind λ(x23:(List UInt8))=>some x23)
def Pg(bS:List UInt8)(bC:aM)(r:List UInt8):AV×WH:=((rC r),[])
theorem aeP(d:Nat){bS:List UInt8}{bC:aM}{r:List UInt8}(h:FU bS bC=some r):Spec (aQ aT (d+7)) 42 [(rC bS),(.agg (dB bC))] [] (Pg bS bC r).1 (Pg bS bC r).2:=by
 unfold FU at h
 exact bK nB aCC h (.bd λx1 q1=>Cb [.agg [.undef,.undef,.slice none 2 0 0 true,.slice none 4 0 0 true]] (LU (d+0) q1)<|.br 10 (λ_=>Fn Fo [] none) λ_=>.bd λx2 q2=>Cl [] Fo [] (Av (d+4) q2)<|.bd λx10 MG=>Lp [none,none,none] [] [] (Y0 (d+3) MG)<|.bd λdV J5=>Cl [] Fo [] (Av (d+4) J5)<|.bd λx23 q23=>Lp [none,none,none] [] [] (Y2 (d+2) q23)<|Fn Fo [] none)
def Bc(m:aG)(s12:List UInt8×Int):List AV×WH:=([(.ptr (some (0,0))),(rC s12.1),(.int .i64 s12.2)],[(some (.cells (dI m) false false))])
def EI(m:aG):(List UInt8)→Ex×Fast×WH:=λe=>((.exit 0),[(1,(.ptr (some (0,0)))),(3,(rC e))],[(some (.cells (dI m) false false))])
abbrev aaU(m:aG):=eF [1,3,4] (Bc m) (EI m)
def uq(m:aG)(s12:List UInt8×Int):Option ((List UInt8×Int)⊕((List UInt8))) :=
 cond (decide (s12.2<(m.Table.length:Int))) ((dH m.Table s12.2).bind λ(rV:aI)=>(Xk rV.fq).bind λ(nO:Int)=>(EH s12.1 ([rV.Inc,rV.Status,rV.rG,rV.Load,nO])).bind λ(dP:List UInt8)=>some (.inl (dP,(IntKind.i64.wrap (s12.2+1))))) (some (.inr s12.1))
def HV(m:aG)(s12:List UInt8×Int):Option ((List UInt8)):=dG (uq m) KK s12
theorem adv(d:Nat){m:aG}{s12:List UInt8×Int}{r:(List UInt8×Int)⊕((List UInt8))}(h:uq m s12=some r):dx (bF (aQ aT (d+2)) KK 82 aqN) 0 (jM [1,3,4] (Bc m s12)) (aaU m r):=by
 unfold uq at h
 exact bU nB aqO h (.br 56 (λ_=>.bd λrV YL=>Ix lX 62 YL<|.st none<|.bd λnO PZ=>jw (agf (d+1) PZ)<|.bd λdP Md=>Cl [] Fo [] (Av (d+0) Md)<|E0 [1,3,4]) λ_=>E0 [1,3])
theorem adw(d:Nat){m:aG}{s12:List UInt8×Int}{r:(List UInt8)}(h:HV m s12=some r):dx (fQ (bF (aQ aT (d+2)) KK 82 aqN) [1,3,4] KK) 0 (jM [1,3,4] (Bc m s12)) (EI m r) :=
 dS (st:=Bc m) (fin:=EI m) (step:=uq m) (λe=>by(intro h;cases h)) (λs x h=>adv d h) KK s12 r h
def Nl(m:aG):Option (List UInt8) :=
 (uN m).bind λ(x1:Bool)=>cond (!x1) (some []) ((Xk m.fq).bind λ(x2:Int)=>(EH [] ([m.Kind,m.From,m.To,m.fJ,m.Epoch,m.Weight,m.Load,m.ou,x2])).bind λ(x3:List UInt8)=>(Nj x3 m.Ef).bind λ(x4:List UInt8)=>(zo x4 m.Answer).bind λ(x5:List UInt8)=>(EH x5 ([(m.Path.length:Int)])).bind λ(x6:List UInt8)=>(EH x6 m.Path).bind λ(x7:List UInt8)=>(EH x7 ([(m.Table.length:Int)])).bind λ(x8:List UInt8)=>(HV m (x8,0)).bind λ(Bz:(List UInt8))=>(FU Bz m.qg).bind λ(kJ:List UInt8)=>some kJ)
def Uw(m:aG)(r:List UInt8):AV×WH:=((rC r),[])
theorem aj3(d:Nat){m:aG}{r:List UInt8}(h:Nl m=some r):Spec (aQ aT (d+8)) 9 [(.agg (dI m))] [] (Uw m r).1 (Uw m r).2:=by
 unfold Nl at h
 exact bK nB AF9 h (.bd λx1 q1=>Cb [.agg [.undef,.undef,.undef,.undef,.undef,.undef,.undef,.undef,.undef,.undef,.undef,.undef,.undef,.undef,.undef,.undef,.undef,.slice none 1 0 0 true,.slice none 5 0 0 true,.undef,.undef,.slice none 2 0 0 true,.slice none 4 0 0 true]] (LV (d+0) q1)<|.br 8 (λ_=>Fn Fo [] none) λ_=>.bd λx2 q2=>jw (agf (d+6) q2)<|.bd λx3 q3=>Cl [] Fo [] (Av (d+5) q3)<|.bd λx4 q4=>Cl [] Fo [] (aj2 (d+3) q4)<|.bd λx5 q5=>Cl [] Fo [] (Rq (d+3) q5)<|.bd λx6 q6=>Cl [] Fo [] (Av (d+5) q6)<|.er<|.ob (rfl:@Eq (Option AV) (some (Lg m.Path)) (some (Lg m.Path)))<|.bd λx7 q7=>Cl [] Fo [] (Av (d+5) q7)<|.bd λx8 q8=>Cl [] Fo [] (Av (d+5) q8)<|.bd λBz q16=>Lp [none,none,none] [] [] (adw (d+5) q16)<|.bd λkJ J4=>Cl [] Fo [.undef,.agg [.undef,.undef,.slice none 2 0 0 true,.slice none 4 0 0 true]] (aeP (d+0) J4)<|Fn Fo [] none)
def FV(m:aG):Option (List Int) :=
 some [m.Kind,m.From,m.To,m.fJ,m.Epoch,m.Weight,m.Load,m.ou]
def Xn(m:aG)(r:List Int):AV×WH:=((Lg r),[])
theorem Ot(d:Nat){m:aG}{r:List Int}(h:FV m=some r):Spec (aQ aT (d+1)) 46 [(.agg (dI m))] [] (Xn m r).1 (Xn m r).2:=by
 unfold FV at h
 exact bK nB aCG h (Fn Fo [] none)
end Go.Proofs.YtohoggieaanllaaGreat
