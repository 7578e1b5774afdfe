import Derived.Test.YtkedeiklmpkgkaaJ5
import Derived.Test.YtkedeiklmpkgkaaProg
import Derived.Test.YtkedeiklmpkgkaaJ6
import Derived.Test.YtkedeiklmpkgkaaL1
set_option linter.all false
set_option maxRecDepth 100000
namespace Go.Proofs.Ytkedeiklmpkgkaa
noncomputable def Em:cu:={ nargs:=3,ntmps:=113,code:=codeOf (bI Try.prog 10 [[1,2,7,8,21,22,23],[13,80,81,82]]),results:=[(.tmp 6)] }
theorem Oe:bI Try.prog 10 [[1,2,7,8,21,22,23],[13,80,81,82]]=some Em:=by kernel_rfl
theorem Og:Em.code.bP=true:=by kernel_rfl
noncomputable def Hr:dB:=(cL (cK (cB (cA (cB (cB (cB Em.code)))))))
theorem JO:Hr.bP=true:=by kernel_rfl
noncomputable def mW:dB:=(cA (cA (cB (cB (cK (cA (cB (cB (cL (cK (cB (cA (cB (cB (cB Em.code)))))))))))))))
theorem qW:mW.bP=true:=by kernel_rfl
noncomputable def vC:dB:=(cA (cB (cB (cB (cB (cB (cB (cB Em.code))))))))
theorem yK:vC.bP=true:=by kernel_rfl
noncomputable def Ht:dB:=(cL (cK (cB (cA (cB (cB (cB (cB (cB (cB (cB (cB Em.code))))))))))))
theorem JQ:Ht.bP=true:=by kernel_rfl
noncomputable def LG:cu:={ nargs:=2,ntmps:=14,code:=codeOf (bI Try.prog 23 []),results:=[(.tmp 4)] }
theorem Oh:bI Try.prog 23 []=some LG:=by kernel_rfl
theorem Oi:LG.code.bP=true:=by kernel_rfl
noncomputable def Hu:cu:={ nargs:=4,ntmps:=34,code:=codeOf (bI Try.prog 45 []),results:=[(.cell 8 true 4)] }
theorem Oj:bI Try.prog 45 []=some Hu:=by kernel_rfl
theorem Ol:Hu.code.bP=true:=by kernel_rfl
noncomputable def FT:dB:=(cA (cB (cB Hu.code)))
theorem FU:FT.bP=true:=by kernel_rfl
noncomputable def Db:dB:=(cA (cA (cB (cB Hu.code))))
theorem Eo:Db.bP=true:=by kernel_rfl
noncomputable def LH:cu:={ nargs:=2,ntmps:=65,code:=codeOf (bI Try.prog 46 []),results:=[(.cell 4 true 2)] }
theorem Om:bI Try.prog 46 []=some LH:=by kernel_rfl
theorem Oo:LH.code.bP=true:=by kernel_rfl
noncomputable def LJ:cu:={ nargs:=1,ntmps:=8,code:=codeOf (bI Try.prog 47 []),results:=[(.tmp 2)] }
theorem Oq:bI Try.prog 47 []=some LJ:=by kernel_rfl
theorem Ot:LJ.code.bP=true:=by kernel_rfl
noncomputable def LK:cu:={ nargs:=1,ntmps:=9,code:=codeOf (bI Try.prog 48 []),results:=[(.tmp 2)] }
theorem Ou:bI Try.prog 48 []=some LK:=by kernel_rfl
theorem Ov:LK.code.bP=true:=by kernel_rfl
noncomputable def LM:cu:={ nargs:=0,ntmps:=21,code:=codeOf (bI Try.prog 49 []),results:=[(.tmp 0)] }
theorem Ow:bI Try.prog 49 []=some LM:=by kernel_rfl
theorem Ox:LM.code.bP=true:=by kernel_rfl
noncomputable def LP:cu:={ nargs:=1,ntmps:=7,code:=codeOf (bI Try.prog 50 []),results:=[(.tmp 2)] }
theorem Oy:bI Try.prog 50 []=some LP:=by kernel_rfl
theorem Oz:LP.code.bP=true:=by kernel_rfl
noncomputable def LQ:cu:={ nargs:=1,ntmps:=7,code:=codeOf (bI Try.prog 51 []),results:=[(.tmp 2)] }
theorem OA:bI Try.prog 51 []=some LQ:=by kernel_rfl
theorem OB:LQ.code.bP=true:=by kernel_rfl
noncomputable def JR:cu:={ nargs:=1,ntmps:=20,code:=codeOf (bI Try.prog 52 [[2,3,6,7,8]]),results:=[(.cell 2 true 1)] }
theorem OC:bI Try.prog 52 [[2,3,6,7,8]]=some JR:=by kernel_rfl
theorem OD:JR.code.bP=true:=by kernel_rfl
noncomputable def Hw:dB:=(cL (cK (cB (cA (cB (cB JR.code))))))
theorem JU:Hw.bP=true:=by kernel_rfl
noncomputable def JV:cu:={ nargs:=2,ntmps:=26,code:=codeOf (bI Try.prog 53 [[0,1,12,13]]),results:=[(.tmp 4)] }
theorem OE:bI Try.prog 53 [[0,1,12,13]]=some JV:=by kernel_rfl
theorem OG:JV.code.bP=true:=by kernel_rfl
noncomputable def Hy:dB:=(cL (cK (cB (cA (cB (cB JV.code))))))
theorem JW:Hy.bP=true:=by kernel_rfl
noncomputable def LU:cu:={ nargs:=1,ntmps:=66,code:=codeOf (bI Try.prog 61 []),results:=[(.cell 2 true 6)] }
theorem OH:bI Try.prog 61 []=some LU:=by kernel_rfl
theorem OI:LU.code.bP=true:=by kernel_rfl
noncomputable def JX:cu:={ nargs:=1,ntmps:=35,code:=codeOf (bI Try.prog 63 []),results:=[(.tmp 2)] }
theorem OJ:bI Try.prog 63 []=some JX:=by kernel_rfl
theorem OL:JX.code.bP=true:=by kernel_rfl
noncomputable def Bl:dB:=(cA (cK (cB (cA (cB JX.code)))))
theorem B_:Bl.bP=true:=by kernel_rfl
noncomputable def Ep:cu:={ nargs:=1,ntmps:=53,code:=codeOf (bI Try.prog 81 []),results:=[(.tmp 2)] }
theorem OM:bI Try.prog 81 []=some Ep:=by kernel_rfl
theorem OO:Ep.code.bP=true:=by kernel_rfl
noncomputable def Jc:dB:=(cA (cB Ep.code))
theorem Hz:Jc.bP=true:=by kernel_rfl
noncomputable def FV:dB:=(cA (cB (cB Ep.code)))
theorem FW:FV.bP=true:=by kernel_rfl
noncomputable def Bn:dB:=(cA (cK (cA (cB (cB Ep.code)))))
theorem Ca:Bn.bP=true:=by kernel_rfl
noncomputable def zn:dB:=(cA (cA (cK (cA (cB (cB Ep.code))))))
theorem Bo:zn.bP=true:=by kernel_rfl
noncomputable def LV:cu:={ nargs:=2,ntmps:=14,code:=codeOf (bI Try.prog 82 []),results:=[(.tmp 4),(.tmp 5)] }
theorem OP:bI Try.prog 82 []=some LV:=by kernel_rfl
theorem OQ:LV.code.bP=true:=by kernel_rfl
noncomputable def LW:cu:={ nargs:=4,ntmps:=41,code:=codeOf (bI Try.prog 83 []),results:=[(.cell 8 true 2)] }
theorem OT:bI Try.prog 83 []=some LW:=by kernel_rfl
theorem OU:LW.code.bP=true:=by kernel_rfl
noncomputable def LX:cu:={ nargs:=3,ntmps:=28,code:=codeOf (bI Try.prog 84 []),results:=[(.cell 6 true 2)] }
theorem OV:bI Try.prog 84 []=some LX:=by kernel_rfl
theorem OW:LX.code.bP=true:=by kernel_rfl
noncomputable def LY:cu:={ nargs:=3,ntmps:=33,code:=codeOf (bI Try.prog 85 []),results:=[(.tmp 6)] }
theorem OX:bI Try.prog 85 []=some LY:=by kernel_rfl
theorem OY:LY.code.bP=true:=by kernel_rfl
noncomputable def LZ:cu:={ nargs:=1,ntmps:=8,code:=codeOf (bI Try.prog 86 []),results:=[(.tmp 2)] }
theorem OZ:bI Try.prog 86 []=some LZ:=by kernel_rfl
theorem O4:LZ.code.bP=true:=by kernel_rfl
noncomputable def L6:cu:={ nargs:=1,ntmps:=9,code:=codeOf (bI Try.prog 87 []),results:=[(.tmp 2)] }
theorem O5:bI Try.prog 87 []=some L6:=by kernel_rfl
theorem O6:L6.code.bP=true:=by kernel_rfl
noncomputable def L8:cu:={ nargs:=2,ntmps:=13,code:=codeOf (bI Try.prog 98 []),results:=[(.tmp 4)] }
theorem O7:bI Try.prog 98 []=some L8:=by kernel_rfl
theorem O8:L8.code.bP=true:=by kernel_rfl
noncomputable def Dc:cu:={ nargs:=3,ntmps:=49,code:=codeOf (bI Try.prog 109 [[0,1,2,8,9,10]]),results:=[(.tmp 6),(.tmp 7)] }
theorem L9:bI Try.prog 109 [[0,1,2,8,9,10]]=some Dc:=by kernel_rfl
theorem L_:Dc.code.bP=true:=by kernel_rfl
noncomputable def Er:dB:=(cL (cK (cA (cB (cB (cB Dc.code))))))
theorem HV:Er.bP=true:=by kernel_rfl
noncomputable def FX:cu:={ nargs:=2,ntmps:=9,code:=codeOf (bI Try.prog 110 []),results:=[(.tmp 4)] }
theorem Ma:bI Try.prog 110 []=some FX:=by kernel_rfl
theorem Mc:FX.code.bP=true:=by kernel_rfl
noncomputable def FY:cu:={ nargs:=2,ntmps:=20,code:=codeOf (bI Try.prog 111 []),results:=[(.tmp 4)] }
theorem Md:bI Try.prog 111 []=some FY:=by kernel_rfl
theorem Me:FY.code.bP=true:=by kernel_rfl
noncomputable def FZ:cu:={ nargs:=3,ntmps:=22,code:=codeOf (bI Try.prog 112 []),results:=[] }
theorem Mf:bI Try.prog 112 []=some FZ:=by kernel_rfl
theorem Mg:FZ.code.bP=true:=by kernel_rfl
noncomputable def P8:cu:={ nargs:=3,ntmps:=95,code:=codeOf (bI Try.prog 113 []),results:=[(.tmp 6)] }
theorem Mh:bI Try.prog 113 []=some P8:=by kernel_rfl
noncomputable def Df:cu:={ nargs:=1,ntmps:=25,code:=codeOf (bI Try.prog 114 [[0,2,3,4]]),results:=[(.cell 2 true 1)] }
theorem Mi:bI Try.prog 114 [[0,2,3,4]]=some Df:=by kernel_rfl
theorem Mj:Df.code.bP=true:=by kernel_rfl
noncomputable def Es:dB:=(cL (cK (cB (cA (cB (cB Df.code))))))
theorem HY:Es.bP=true:=by kernel_rfl
noncomputable def Bp:cu:={ nargs:=2,ntmps:=147,code:=codeOf (bI Try.prog 118 []),results:=[(.cell 4 true 2)] }
theorem Ml:bI Try.prog 118 []=some Bp:=by kernel_rfl
theorem Mq:Bp.code.bP=true:=by kernel_rfl
noncomputable def qy:dB:=(cA (cT (cB (cF (cB (cK (cB (cA (cB (cB (cB Bp.code)))))))))))
theorem tX:qy.bP=true:=by kernel_rfl
noncomputable def mX:dB:=(cA (cB (cB (cB (cT (cB (cF (cB (cK (cB (cA (cB (cB (cB Bp.code))))))))))))))
theorem qX:mX.bP=true:=by kernel_rfl
noncomputable def F3:cu:={ nargs:=1,ntmps:=6,code:=codeOf (bI Try.prog 125 []),results:=[(.tmp 2)] }
theorem Mr:bI Try.prog 125 []=some F3:=by kernel_rfl
theorem Ms:F3.code.bP=true:=by kernel_rfl
noncomputable def F4:cu:={ nargs:=2,ntmps:=10,code:=codeOf (bI Try.prog 127 []),results:=[] }
theorem Mt:bI Try.prog 127 []=some F4:=by kernel_rfl
theorem Mv:F4.code.bP=true:=by kernel_rfl
noncomputable def Dg:cu:={ nargs:=1,ntmps:=58,code:=codeOf (bI Try.prog 128 []),results:=[(.tmp 2)] }
theorem Mw:bI Try.prog 128 []=some Dg:=by kernel_rfl
theorem Mx:Dg.code.bP=true:=by kernel_rfl
noncomputable def F5:dB:=(cA (cB Dg.code))
theorem F6:F5.bP=true:=by kernel_rfl
noncomputable def Dh:cu:={ nargs:=2,ntmps:=42,code:=codeOf (bI Try.prog 129 [[0,1,6]]),results:=[(.tmp 4),(.tmp 5)] }
theorem MB:bI Try.prog 129 [[0,1,6]]=some Dh:=by kernel_rfl
theorem MC:Dh.code.bP=true:=by kernel_rfl
noncomputable def Et:dB:=(cL (cK (cB (cA (cB Dh.code)))))
theorem HZ:Et.bP=true:=by kernel_rfl
noncomputable def F7:cu:={ nargs:=2,ntmps:=14,code:=codeOf (bI Try.prog 132 []),results:=[] }
theorem ME:bI Try.prog 132 []=some F7:=by kernel_rfl
theorem MF:F7.code.bP=true:=by kernel_rfl
noncomputable def F8:cu:={ nargs:=1,ntmps:=28,code:=codeOf (bI Try.prog 133 [[0,2,3]]),results:=[] }
theorem MG:bI Try.prog 133 [[0,2,3]]=some F8:=by kernel_rfl
theorem MH:F8.code.bP=true:=by kernel_rfl
def Di{α:Type}:List (Nat×α)→Nat→Option α
 | [],_=>none
 | p::r,n=>match Nat.beq p.1 n with
  | true=>some p.2
  | false=>Di r n
theorem uJ{α:Type}:∀ {l:List (Nat×α)} {n:Nat} {x:α},Di l n=some x→(n,x)∈l
 | [],n,x,h=>by cases h
 | p::r,n,x,h=>by
  simp only[Di]at h
  split at h
  ·rename_i e
   obtain rfl:=ak h
   rw[←aS e]
   exact List.mem_cons_self
  ·exact List.mem_cons_of_mem _ (uJ h)
noncomputable def P9:List (Nat×cu):=[(10,Em),(23,LG),(45,Hu),(46,LH),(47,LJ),(48,LK),(49,LM),(50,LP),(51,LQ),(52,JR),(53,JV),(61,LU),(63,JX),(81,Ep),(82,LV),(83,LW),(84,LX),(85,LY),(86,LZ),(87,L6),(98,L8),(109,Dc),(110,FX),(111,FY),(112,FZ),(113,P8),(114,Df),(118,Bp),(125,F3),(127,F4),(128,Dg),(129,Dh),(132,F7),(133,F8)]
noncomputable def MI:FuncId→Option cu:=Di P9
theorem QN:yX Try.prog 126 P5:=QL (fn:=Try.f126) (tS:=74) (tR:=4) (e:=87) (size:=2) Try.func126 rfl rfl (by kernel_rfl) (by kernel_rfl) Try.underlying74 (by kernel_rfl)
def Ux:List (Nat×(List AV→Heap→Option (AV×Heap))):=[(113,Ho 2 32)]
def wG:DJ:=Di Ux
theorem QO:∀p∈Ux,(vJ Try.prog p.1∧Sound Try.prog p.1 p.2)∨yX Try.prog p.1 p.2 :=
 aI.2 ⟨.inl (Hq (hs:=[]) (zero:=[(.str []),(.str [])]) rfl (by decide) (show bI Try.prog 113 []=some (zF 2 32 [(.str []),(.str [])] 126 127)by kernel_rfl) (by decide) QN),(λ_ h=>by cases h)⟩
theorem R4:∀f g,wG f=some g→(vJ Try.prog f∧Sound Try.prog f g)∨yX Try.prog f g:=λf g h=>QO (f,g) (uJ h)
noncomputable def bG:Tab:=(wG,MI)
theorem MJ:∀p∈P9,∃h,bI Try.prog p.1 h=some p.2 :=
 aI.2 ⟨⟨_,Oe⟩,aI.2 ⟨⟨_,Oh⟩,aI.2 ⟨⟨_,Oj⟩,aI.2 ⟨⟨_,Om⟩,aI.2 ⟨⟨_,Oq⟩,aI.2 ⟨⟨_,Ou⟩,aI.2 ⟨⟨_,Ow⟩,aI.2 ⟨⟨_,Oy⟩,aI.2 ⟨⟨_,OA⟩,aI.2 ⟨⟨_,OC⟩,aI.2 ⟨⟨_,OE⟩,aI.2 ⟨⟨_,OH⟩,aI.2 ⟨⟨_,OJ⟩,aI.2 ⟨⟨_,OM⟩,aI.2 ⟨⟨_,OP⟩,aI.2 ⟨⟨_,OT⟩,aI.2 ⟨⟨_,OV⟩,aI.2 ⟨⟨_,OX⟩,aI.2 ⟨⟨_,OZ⟩,aI.2 ⟨⟨_,O5⟩,aI.2 ⟨⟨_,O7⟩,aI.2 ⟨⟨_,L9⟩,aI.2 ⟨⟨_,Ma⟩,aI.2 ⟨⟨_,Md⟩,aI.2 ⟨⟨_,Mf⟩,aI.2 ⟨⟨_,Mh⟩,aI.2 ⟨⟨_,Mi⟩,aI.2 ⟨⟨_,Ml⟩,aI.2 ⟨⟨_,Mr⟩,aI.2 ⟨⟨_,Mt⟩,aI.2 ⟨⟨_,Mw⟩,aI.2 ⟨⟨_,MB⟩,aI.2 ⟨⟨_,ME⟩,aI.2 ⟨⟨_,MG⟩,(λ_ h=>by cases h)⟩⟩⟩⟩⟩⟩⟩⟩⟩⟩⟩⟩⟩⟩⟩⟩⟩⟩⟩⟩⟩⟩⟩⟩⟩⟩⟩⟩⟩⟩⟩⟩⟩⟩
theorem O9{f:FuncId}{x:cu}(h:MI f=some x):∃hs,bI Try.prog f hs=some x:=MJ (f,x) (uJ h)
theorem TB:bG.1 10=none∧bG.2 10=some Em∧Em.code.bP=true:=uO rfl (by kernel_rfl) Og
theorem TD:bG.1 23=none∧bG.2 23=some LG∧LG.code.bP=true:=uO rfl (by kernel_rfl) Oi
theorem TF:bG.1 45=none∧bG.2 45=some Hu∧Hu.code.bP=true:=uO rfl (by kernel_rfl) Ol
theorem QS:bG.1 46=none∧bG.2 46=some LH∧LH.code.bP=true:=uO rfl (by kernel_rfl) Oo
theorem R5:bG.1 47=none∧bG.2 47=some LJ∧LJ.code.bP=true:=uO rfl (by kernel_rfl) Ot
theorem TG:bG.1 48=none∧bG.2 48=some LK∧LK.code.bP=true:=uO rfl (by kernel_rfl) Ov
theorem TH:bG.1 49=none∧bG.2 49=some LM∧LM.code.bP=true:=uO rfl (by kernel_rfl) Ox
theorem TI:bG.1 50=none∧bG.2 50=some LP∧LP.code.bP=true:=uO rfl (by kernel_rfl) Oz
theorem TJ:bG.1 51=none∧bG.2 51=some LQ∧LQ.code.bP=true:=uO rfl (by kernel_rfl) OB
theorem TK:bG.1 52=none∧bG.2 52=some JR∧JR.code.bP=true:=uO rfl (by kernel_rfl) OD
theorem TL:bG.1 53=none∧bG.2 53=some JV∧JV.code.bP=true:=uO rfl (by kernel_rfl) OG
theorem TM:bG.1 61=none∧bG.2 61=some LU∧LU.code.bP=true:=uO rfl (by kernel_rfl) OI
theorem TN:bG.1 63=none∧bG.2 63=some JX∧JX.code.bP=true:=uO rfl (by kernel_rfl) OL
theorem TP:bG.1 81=none∧bG.2 81=some Ep∧Ep.code.bP=true:=uO rfl (by kernel_rfl) OO
theorem QT:bG.1 82=none∧bG.2 82=some LV∧LV.code.bP=true:=uO rfl (by kernel_rfl) OQ
theorem QU:bG.1 83=none∧bG.2 83=some LW∧LW.code.bP=true:=uO rfl (by kernel_rfl) OU
theorem R6:bG.1 84=none∧bG.2 84=some LX∧LX.code.bP=true:=uO rfl (by kernel_rfl) OW
theorem Vl:bG.1 85=none∧bG.2 85=some LY∧LY.code.bP=true:=uO rfl (by kernel_rfl) OY
theorem Vm:bG.1 86=none∧bG.2 86=some LZ∧LZ.code.bP=true:=uO rfl (by kernel_rfl) O4
theorem Vn:bG.1 87=none∧bG.2 87=some L6∧L6.code.bP=true:=uO rfl (by kernel_rfl) O6
theorem TQ:bG.1 98=none∧bG.2 98=some L8∧L8.code.bP=true:=uO rfl (by kernel_rfl) O8
theorem R7:bG.1 109=none∧bG.2 109=some Dc∧Dc.code.bP=true:=uO rfl (by kernel_rfl) L_
theorem R8:bG.1 110=none∧bG.2 110=some FX∧FX.code.bP=true:=uO rfl (by kernel_rfl) Mc
theorem R9:bG.1 111=none∧bG.2 111=some FY∧FY.code.bP=true:=uO rfl (by kernel_rfl) Me
theorem MK:bG.1 112=none∧bG.2 112=some FZ∧FZ.code.bP=true:=uO rfl (by kernel_rfl) Mg
theorem R_:bG.1 114=none∧bG.2 114=some Df∧Df.code.bP=true:=uO rfl (by kernel_rfl) Mj
theorem Sb:bG.1 118=none∧bG.2 118=some Bp∧Bp.code.bP=true:=uO rfl (by kernel_rfl) Mq
theorem Sc:bG.1 125=none∧bG.2 125=some F3∧F3.code.bP=true:=uO rfl (by kernel_rfl) Ms
theorem Uy:bG.1 127=none∧bG.2 127=some F4∧F4.code.bP=true:=uO rfl (by kernel_rfl) Mv
theorem Sd:bG.1 128=none∧bG.2 128=some Dg∧Dg.code.bP=true:=uO rfl (by kernel_rfl) Mx
theorem Sg:bG.1 129=none∧bG.2 129=some Dh∧Dh.code.bP=true:=uO rfl (by kernel_rfl) MC
theorem Uz:bG.1 132=none∧bG.2 132=some F7∧F7.code.bP=true:=uO rfl (by kernel_rfl) MF
theorem UA:bG.1 133=none∧bG.2 133=some F8∧F8.code.bP=true:=uO rfl (by kernel_rfl) MH
def UC:List (Nat×Bt):=[(85,.del 2),(86,.clone 2 32),(87,.clip 2),(113,.ins 2 32)]
def wB:FuncId→Option Bt:=Di UC
theorem QV(d:Nat):∀p∈UC,Gm (bn bG (d+1)) p.1 p.2 :=
 aI.2 ⟨Od (bytes:=32) (zero:=[(.str []),(.str [])]) rfl rfl (show bG.2 85=some (LC 2 32 [(.str []),(.str [])])by kernel_rfl),aI.2 ⟨JG (zero:=[(.str []),(.str [])]) rfl (show bG.2 86=some (tQ 2 32 [(.str []),(.str [])])by kernel_rfl),aI.2 ⟨Lh rfl (show bG.2 87=some (FK 2)by kernel_rfl),aI.2 ⟨N8 rfl,(λ_ h=>by cases h)⟩⟩⟩⟩
theorem vD(d:Nat):∀f b,wB f=some b→Gm (bn bG (d+1)) f b:=λf b h=>QV d (f,b) (uJ h)
def dZ(n:Int)(m:Int):Option (Int) :=
 (NU .i64 n m).bind λ(x1:Int)=>cond (decide (x1<0)) (some (IntKind.i64.wrap (x1+m))) (some x1)
def zo(n:Int)(m:Int)(r:Int):AV×WH:=((.int .i64 r),[])
theorem eU(d:Nat){n:Int}{m:Int}{r:Int}(h:dZ n m=some r):Spec (bn bG (d+1)) 23 [(.int .i64 n),(.int .i64 m)] [] (zo n m r).1 (zo n m r).2:=by
 unfold dZ at h
 exact bZ nB TD h (.bd λx1 q1=>.v 7 (.int .i64 x1)<|.ob (QD q1:qL .rem .i64 n m=some (.int .i64 x1))<|.br 9 (λ_=>Fn Fo [] none) λ_=>Fn Fo [] none)
def iZ(n:Int):Option (List UInt8) :=
 (dZ n 6).bind λ(x1:Int)=>(iO ([([]:List UInt8),[49],[50],[116,104,114,101,101],[115,105,120,116,101,101,110,32,98,121,116,101,115,32,105,116],[52]]:List (List UInt8)) x1).bind λ(x2:List UInt8)=>some x2
def xC(n:Int)(r:List UInt8):AV×WH:=((.str r),[])
theorem vS(d:Nat){n:Int}{r:List UInt8}(h:iZ n=some r):Spec (bn bG (d+2)) 51 [(.int .i64 n)] [] (xC n r).1 (xC n r).2:=by
 unfold iZ at h
 exact bZ nB TJ h (.bd λx1 q1=>tV (eU (d+0) q1)<|.bd λx2 q2=>.v 6 (.str x2)<|.ob (PY Uo q2:wP (.index false 6 1 (.c (.agg [(.str ([]:List UInt8)),(.str [49]),(.str [50]),(.str ([116,104,114,101,101])),(.str ([115,105,120,116,101,101,110,32,98,121,116,101,115,32,105,116])),(.str [52])])) (.c (.int .i64 x1)))=some (.str x2))<|Fn Fo [] none)
abbrev Eu(x1:Int)(n:Int):Fast×WH:=([(0,(.int .i64 n)),(4,(.int .i64 x1))],[])
def Cc(x1:Int)(n:Int):Bool→Ex×Fast×WH:=λe=>(.normal,[(0,(.int .i64 n)),(4,(.int .i64 x1)),(5,(.bool e))],[])
def yL(x1:Int)(n:Int):Option (Bool) :=
 cond (x1==0) (some true) (cond (x1==1) (some true) (some (x1==2)))
theorem F9(d:Nat){x1:Int}{n:Int}{r:Bool}(h:yL x1 n=some r):kM (bO (bn bG (d+0)) KK 35 Bl) 0 (Eu x1 n) (Cc x1 n r):=by
 unfold yL at h
 exact iN nB B_ h (.br 5 (λ_=>E0 [0,4,5]) λ_=>.br 5 (λ_=>E0 [0,4,5]) λ_=>E0 [0,4,5])
def H6(n:Int):Option (Int) :=
 (dZ n 7).bind λ(x1:Int)=>(yL x1 n).bind λ(x2:Bool)=>cond x2 ((dZ (IntKind.i64.wrap (Int.tdiv n 7)) 40).bind λ(x3:Int)=>some x3) (cond (x1==3) ((dZ (IntKind.i64.wrap (Int.tdiv n 7)) 63).bind λ(x4:Int)=>(QA .i64 1 (IntKind.u64.wrap x4)).bind λ(x5:Int)=>(dZ (IntKind.i64.wrap (Int.tdiv n 441)) 3).bind λ(x6:Int)=>some (IntKind.i64.wrap (x5-x6))) (cond (x1==4) ((dZ (IntKind.i64.wrap (Int.tdiv n 7)) 3).bind λ(x7:Int)=>some (IntKind.i64.wrap (4611686018427387903-x7))) (cond (x1==5) ((dZ (IntKind.i64.wrap (Int.tdiv n 7)) 1000).bind λ(x8:Int)=>some x8) (some n))))
def Bq(n:Int)(r:Int):AV×WH:=((.int .i64 r),[])
theorem ML(d:Nat){n:Int}{r:Int}(h:H6 n=some r):Spec (bn bG (d+2)) 63 [(.int .i64 n)] [] (Bq n r).1 (Bq n r).2:=by
 unfold H6 at h
 exact bZ nB TN h (.bd λx1 q1=>tV (eU (d+0) q1)<|.bd λx2 q2=>Jn [0,4] [none,none] [] [] (F9 (d+1) q2)<|.br 5 (λ_=>.bd λx3 q3=>tV (eU (d+0) q3)<|Fn Fo [] none) λ_=>.br 12 (λ_=>.bd λx4 q4=>tV (eU (d+0) q4)<|.bd λx5 q5=>.v 18 (.int .i64 x5)<|.ob (QH q5:zx .shl (.int .i64 1) (.int .u64 (IntKind.u64.wrap x4))=some (.int .i64 x5))<|.bd λx6 q6=>tV (eU (d+0) q6)<|Fn Fo [] none) λ_=>.br 23 (λ_=>.bd λx7 q7=>tV (eU (d+0) q7)<|Fn Fo [] none) λ_=>.br 29 (λ_=>.bd λx8 q8=>tV (eU (d+0) q8)<|Fn Fo [] none) λ_=>Fn Fo [] none)
def pI(n:Int):Option (List UInt8) :=
 (dZ n 16).bind λ(x1:Int)=>(iO ([[97],[98],[99],[100],[101],[102],[103],[104],[107,97],[107,98],[107,99],[107,100],[120],[121],[122,122],[101,105,103,104,116,107,101,121]]:List (List UInt8)) x1).bind λ(x2:List UInt8)=>some x2
def Br(n:Int)(r:List UInt8):AV×WH:=((.str r),[])
theorem Ga(d:Nat){n:Int}{r:List UInt8}(h:pI n=some r):Spec (bn bG (d+2)) 50 [(.int .i64 n)] [] (Br n r).1 (Br n r).2:=by
 unfold pI at h
 exact bZ nB TI h (.bd λx1 q1=>tV (eU (d+0) q1)<|.bd λx2 q2=>.v 6 (.str x2)<|.ob (PY Uo q2:wP (.index false 16 1 (.c (.agg [(.str [97]),(.str [98]),(.str [99]),(.str [100]),(.str [101]),(.str [102]),(.str [103]),(.str [104]),(.str ([107,97])),(.str ([107,98])),(.str ([107,99])),(.str ([107,100])),(.str [120]),(.str [121]),(.str ([122,122])),(.str ([101,105,103,104,116,107,101,121]))])) (.c (.int .i64 x1)))=some (.str x2))<|Fn Fo [] none)
abbrev Gb(x1:Int)(value:Int)(old:Int)(x2:List UInt8):Fast×WH:=([(2,(.int .i64 value)),(3,(.int .i64 old)),(8,(.ptr (some (0,0)))),(9,(.ptr (some (1,0))))],[(some (.cells (bT (⟨0,([]:List UInt8),([]:List UInt8),([]:List UInt8)⟩:aW)) false false)),(some (.cells (bT (⟨(IntKind.i64.wrap (1+x1)),x2,([]:List UInt8),([]:List UInt8)⟩:aW)) false false))])
def Ev(x1:Int)(value:Int)(old:Int)(x2:List UInt8):Bool→Ex×Fast×WH:=λe=>(.normal,[(2,(.int .i64 value)),(3,(.int .i64 old)),(8,(.ptr (some (0,0)))),(9,(.ptr (some (1,0)))),(23,(.bool e))],[(some (.cells (bT (⟨0,([]:List UInt8),([]:List UInt8),([]:List UInt8)⟩:aW)) false false)),(some (.cells (bT (⟨(IntKind.i64.wrap (1+x1)),x2,([]:List UInt8),([]:List UInt8)⟩:aW)) false false))])
def xD(x1:Int)(value:Int)(old:Int)(x2:List UInt8):Option (Bool) :=
 cond ((IntKind.i64.wrap (1+x1))==2) (some true) (some ((IntKind.i64.wrap (1+x1))==4))
theorem H7(d:Nat){x1:Int}{value:Int}{old:Int}{x2:List UInt8}{r:Bool}(h:xD x1 value old x2=some r):kM (bO (bn bG (d+0)) KK 34 Db) 0 (Gb x1 value old x2) (Ev x1 value old x2 r):=by
 unfold xD at h
 exact iN nB Eo h (.br 19 (λ_=>E0 [2,3,8,9,23]) λ_=>E0 [2,3,8,9,23])
abbrev Gc(x1:Int)(value:Int)(old:Int)(x2:List UInt8):Fast×WH:=([(2,(.int .i64 value)),(3,(.int .i64 old)),(8,(.ptr (some (0,0)))),(9,(.ptr (some (1,0))))],[(some (.cells (bT (⟨0,([]:List UInt8),([]:List UInt8),([]:List UInt8)⟩:aW)) false false)),(some (.cells (bT (⟨(IntKind.i64.wrap (1+x1)),x2,([]:List UInt8),([]:List UInt8)⟩:aW)) false false))])
def Ew(x1:Int)(value:Int)(old:Int)(x2:List UInt8):aW→Ex×Fast×WH:=λe=>(.normal,[(3,(.int .i64 old)),(8,(.ptr (some (0,0)))),(9,(.ptr (some (1,0))))],[(some (.cells (bT (⟨0,([]:List UInt8),([]:List UInt8),([]:List UInt8)⟩:aW)) false false)),(some (.cells (bT e) false false))])
def xE(x1:Int)(value:Int)(old:Int)(x2:List UInt8):Option (aW) :=
 (xD x1 value old x2).bind λ(x3:Bool)=>cond x3 ((iZ value).bind λ(x4:List UInt8)=>some (⟨(IntKind.i64.wrap (1+x1)),x2,x4,([]:List UInt8)⟩:aW)) (some (⟨(IntKind.i64.wrap (1+x1)),x2,([]:List UInt8),([]:List UInt8)⟩:aW))
theorem H8(d:Nat){x1:Int}{value:Int}{old:Int}{x2:List UInt8}{r:aW}(h:xE x1 value old x2=some r):kM (bO (bn bG (d+2)) KK 34 FT) 0 (Gc x1 value old x2) (Ew x1 value old x2 r):=by
 unfold xE at h
 exact iN nB FU h (.bd λx3 q3=>Jn [2,3,8,9] [none,none,none,none] [] [] (H7 (d+2) q3)<|.br 23 (λ_=>.bd λx4 q4=>tV (vS (d+0) q4)<|.st none<|E0 [3,8,9]) λ_=>E0 [3,8,9])
def Dj(kind:Int)(key:Int)(value:Int)(old:Int):Option (aW) :=
 (dZ kind 4).bind λ(x1:Int)=>(pI key).bind λ(x2:List UInt8)=>(xE x1 value old x2).bind λ(x5:aW)=>cond (x5.Kind==4) ((iZ old).bind λ(x6:List UInt8)=>some (⟨x5.Kind,x5.Key,x5.Value,x6⟩:aW)) (some x5)
def Dk(kind:Int)(key:Int)(value:Int)(old:Int)(r:aW):AV×WH:=((.agg (bT r)),[])
theorem Jd(d:Nat){kind:Int}{key:Int}{value:Int}{old:Int}{r:aW}(h:Dj kind key value old=some r):Spec (bn bG (d+3)) 45 [(.int .i64 kind),(.int .i64 key),(.int .i64 value),(.int .i64 old)] [] (Dk kind key value old r).1 (Dk kind key value old r).2:=by
 unfold Dj at h
 exact bZ nB TF h (.bd λx1 q1=>tV (eU (d+1) q1)<|.bd λx2 q2=>tV (Ga (d+0) q2)<|.st none<|.bd λx5 q5=>Jn [2,3,8,9] [none,none,none,none] [] [] (H8 (d+0) q5)<|.br 29 (λ_=>.bd λx6 q6=>tV (vS (d+0) q6)<|.st none<|.st none<|Fn Fo [] none) λ_=>.st none<|Fn Fo [] none)
abbrev xG(o:aW):Fast×WH:=([(1,(.ptr (some (0,0))))],[(some (.cells (bT o) false false))])
def vT(o:aW):Bool→Ex×Fast×WH:=λe=>(.normal,[(1,(.ptr (some (0,0)))),(3,(.bool e))],[(some (.cells (bT o) false false))])
def lD(o:aW):Option (Bool) :=
 cond (o.Kind==2) (some true) (some (o.Kind==4))
theorem yM(d:Nat){o:aW}{r:Bool}(h:lD o=some r):kM (bO (bn bG (d+0)) KK 53 Jc) 0 (xG o) (vT o r):=by
 unfold lD at h
 exact iN nB Hz h (.br 7 (λ_=>E0 [1,3]) λ_=>E0 [1,3])
abbrev xH(o:aW)(x1:Bool):Fast×WH:=([(1,(.ptr (some (0,0)))),(3,(.bool x1))],[(some (.cells (bT o) false false))])
def vU(o:aW)(x1:Bool):Bool→Ex×Fast×WH:=λe=>(.normal,[(1,(.ptr (some (0,0)))),(3,(.bool x1)),(12,(.bool e))],[(some (.cells (bT o) false false))])
def lF(o:aW)(x1:Bool):Option (Bool) :=
 cond (decide (o.Kind<1)) (some true) (some (decide (o.Kind>4)))
theorem yN(d:Nat){o:aW}{x1:Bool}{r:Bool}(h:lF o x1=some r):kM (bO (bn bG (d+0)) KK 53 zn) 0 (xH o x1) (vU o x1 r):=by
 unfold lF at h
 exact iN nB Bo h (.br 16 (λ_=>E0 [1,3,12]) λ_=>E0 [1,3,12])
abbrev xI(o:aW)(x1:Bool):Fast×WH:=([(1,(.ptr (some (0,0)))),(3,(.bool x1))],[(some (.cells (bT o) false false))])
def vV(o:aW)(x1:Bool):Bool→Ex×Fast×WH:=λe=>(.normal,[(1,(.ptr (some (0,0)))),(3,(.bool x1)),(12,(.bool e))],[(some (.cells (bT o) false false))])
def lG(o:aW)(x1:Bool):Option (Bool) :=
 (lF o x1).bind λ(x2:Bool)=>cond x2 (some true) (cond (o.Key==([]:List UInt8)) (some true) (some (decide ((o.Key.length:Int)>8))))
theorem yO(d:Nat){o:aW}{x1:Bool}{r:Bool}(h:lG o x1=some r):kM (bO (bn bG (d+0)) KK 53 Bn) 0 (xI o x1) (vV o x1 r):=by
 unfold lG at h
 exact iN nB Ca h (.bd λx2 q2=>Jn [1,3] [none,none] [] [] (yN (d+0) q2)<|.br 12 (λ_=>E0 [1,3,12]) λ_=>.br 12 (λ_=>E0 [1,3,12]) λ_=>E0 [1,3,12])
abbrev xJ(o:aW)(x1:Bool):Fast×WH:=([(1,(.ptr (some (0,0)))),(3,(.bool x1))],[(some (.cells (bT o) false false))])
def vW(o:aW)(x1:Bool):Unit⊕Unit→Ex×Fast×WH:=fun
 |.inl e=>(.ret,[(2,(.bool false))],[])
 |.inr e=>(.normal,[(1,(.ptr (some (0,0)))),(3,(.bool x1))],[(some (.cells (bT o) false false))])
def lH(o:aW)(x1:Bool):Option (Unit⊕Unit) :=
 (lG o x1).bind λ(x3:Bool)=>cond x3 (some (.inl ())) (cond (decide ((o.Value.length:Int)>16)) (some (.inl ())) (cond (decide ((o.Old.length:Int)>16)) (some (.inl ())) (some (.inr ()))))
theorem qY(d:Nat){o:aW}{x1:Bool}{r:Unit⊕Unit}(h:lH o x1=some r):kM (bO (bn bG (d+0)) KK 53 FV) 0 (xJ o x1) (vW o x1 r):=by
 unfold lH at h
 exact iN nB FW h (.bd λx3 q3=>Jn [1,3] [none,none] [] [] (yO (d+0) q3)<|.br 12 (λ_=>E0 [2]) λ_=>.br 28 (λ_=>E0 [2]) λ_=>.br 28 (λ_=>E0 [2]) λ_=>E0 [1,3])
def jD(o:aW):Option (Bool) :=
 (lD o).bind λ(x1:Bool)=>(lH o x1).bind λ(x4:Unit⊕Unit)=>cond (zN x4) (some false) (cond x1 (cond (o.Kind==4) (some true) (some (o.Old==([]:List UInt8)))) (cond (o.Value==([]:List UInt8)) (cond (o.Kind==4) (some true) (some (o.Old==([]:List UInt8)))) (some false)))
def sG(o:aW)(r:Bool):AV×WH:=((.bool r),[])
theorem qG(d:Nat){o:aW}{r:Bool}(h:jD o=some r):Spec (bn bG (d+1)) 81 [(.agg (bT o))] [] (sG o r).1 (sG o r).2:=by
 unfold jD at h
 exact bZ nB TP h (.sk<|.bd λx1 q1=>Jn [1] [none] [] [] (yM (d+0) q1)<|.bd λx4 q4=>.ite (λhb5=>Jn [1,3] [none,none] [] [] (I7 (il hb5) (qY (d+0) q4))<|Fn Fo [] none) λhb5=>Jn [1,3] [none,none] [] [] (I7 (QI hb5) (qY (d+0) q4))<|.br 38 (λ_=>.br 47 (λ_=>Fn Fo [] none) λ_=>Fn Fo [] none) λ_=>.br 43 (λ_=>.br 47 (λ_=>Fn Fo [] none) λ_=>Fn Fo [] none) λ_=>Fn Fo [] none)
def cmp_isNaN_string(a0:List UInt8):Option (Bool) :=
 some (!(a0==a0))
def mY(a0:List UInt8)(r:Bool):AV×WH:=((.bool r),[])
theorem pJ(d:Nat){a0:List UInt8}{r:Bool}(h:cmp_isNaN_string a0=some r):Spec (bn bG (d+1)) 125 [(.str a0)] [] (mY a0 r).1 (mY a0 r).2:=by
 unfold cmp_isNaN_string at h
 exact bZ nB Sc h (Fn Fo [] none)
def iQ(a0:List UInt8)(a1:List UInt8):Option (Int) :=
 (cmp_isNaN_string a0).bind λ(x1:Bool)=>(cmp_isNaN_string a1).bind λ(x2:Bool)=>cond x1 (cond x2 (some 0) (some (-1))) (cond x2 (some 1) (cond (Op.bytesLess a0 a1) (some (-1)) (cond (!(Op.bytesLess a0 a1||a0==a1)) (some 1) (some 0))))
def lI(a0:List UInt8)(a1:List UInt8)(r:Int):AV×WH:=((.int .i64 r),[])
theorem tY(d:Nat){a0:List UInt8}{a1:List UInt8}{r:Int}(h:iQ a0 a1=some r):Spec (bn bG (d+2)) 111 [(.str a0),(.str a1)] [] (lI a0 a1 r).1 (lI a0 a1 r).2:=by
 unfold iQ at h
 exact bZ nB R9 h (.bd λx1 q1=>tV (pJ (d+0) q1)<|.bd λx2 q2=>tV (pJ (d+0) q2)<|.br 11 (λ_=>.br 12 (λ_=>Fn Fo [] none) λ_=>Fn Fo [] none) λ_=>.br 13 (λ_=>Fn Fo [] none) λ_=>.br 16 (λ_=>Fn Fo [] none) λ_=>.br 19 (λ_=>Fn Fo [] none) λ_=>Fn Fo [] none)
def eX(p:aA)(key:List UInt8):Option (Int) :=
 (iQ p.Key key).bind λ(x1:Int)=>some x1
def lJ(p:aA)(key:List UInt8)(r:Int):AV×WH:=((.int .i64 r),[])
theorem mZ(d:Nat){p:aA}{key:List UInt8}{r:Int}(h:eX p key=some r):Spec (bn bG (d+3)) 110 [(.agg (rW p)),(.str key)] [] (lJ p key r).1 (lJ p key r).2:=by
 unfold eX at h
 exact bZ nB R8 h (.bd λx1 q1=>tV (tY (d+0) q1)<|Fn Fo [] none)
def bH(a0:List aA)(a1:List UInt8)(s3:Int×Int):List AV×WH:=([(bX a0),(.str a1),(.func 110 []),(.int .i64 (a0.length:Int)),(.int .i64 s3.1),(.int .i64 s3.2)],[])
def bQ(a0:List aA)(a1:List UInt8):Int→Ex×Fast×WH:=λe=>((.exit 0),[(0,(bX a0)),(1,(.str a1)),(2,(.func 110 [])),(8,(.int .i64 (a0.length:Int))),(9,(.int .i64 e))],[])
abbrev fF(a0:List aA)(a1:List UInt8):=pz [0,1,2,8,9,10] (bH a0 a1) (bQ a0 a1)
def bD(a0:List aA)(a1:List UInt8)(s3:Int×Int):Option ((Int×Int)⊕(Int)) :=
 cond (decide (s3.1<s3.2)) ((iO a0 (IntKind.i64.wrap (JH .u64 (IntKind.u64.wrap (IntKind.i64.wrap (s3.1+s3.2))) 1))).bind λ(x4:aA)=>(eX x4 a1).bind λ(x5:Int)=>cond (decide (x5<0)) (some (.inl ((IntKind.i64.wrap ((IntKind.i64.wrap (JH .u64 (IntKind.u64.wrap (IntKind.i64.wrap (s3.1+s3.2))) 1))+1)),s3.2))) (some (.inl (s3.1,(IntKind.i64.wrap (JH .u64 (IntKind.u64.wrap (IntKind.i64.wrap (s3.1+s3.2))) 1)))))) (some (.inr s3.1))
def bU(a0:List aA)(a1:List UInt8)(s3:Int×Int):Option (Int):=lX (bD a0 a1) KK s3
theorem fM(d:Nat){a0:List aA}{a1:List UInt8}{s3:Int×Int}{r:(Int×Int)⊕(Int)}(h:bD a0 a1 s3=some r):kM (bO (bn bG (d+3)) KK 49 Er) 0 (I6 [0,1,2,8,9,10] (bH a0 a1 s3)) (fF a0 a1 r):=by
 unfold bD at h
 exact iN nB HV h (.br 17 (λ_=>.bd λx4 q4=>Ix aO 27 q4<|.bd λx5 q5=>tV (mZ (d+0) q5)<|.br 31 (λ_=>E1 [0,1,2,8,9,10] [none,none,none,none,none,none] [] [.slice none 2 0 0 true,.undef,.undef,.undef,.undef,.undef]) λ_=>E1 [0,1,2,8,9,10] [none,none,none,none,none,none] [] [.slice none 2 0 0 true,.undef,.undef,.undef,.undef,.undef]) λ_=>E1 [0,1,2,8,9] [none,none,none,none,none] [] [.slice none 2 0 0 true,.undef,.undef,.undef,.undef])
theorem fO(d:Nat){a0:List aA}{a1:List UInt8}{s3:Int×Int}{r:Int}(h:bU a0 a1 s3=some r):kM (nS (bO (bn bG (d+3)) KK 49 Er) [0,1,2,8,9,10] KK) 0 (I6 [0,1,2,8,9,10] (bH a0 a1 s3)) (bQ a0 a1 r) :=
 qw (st:=bH a0 a1) (fin:=bQ a0 a1) (step:=bD a0 a1) (λe=>by(intro h;cases h)) (λs x h=>fM d h) KK s3 r h
def bg(a0:List aA)(a1:List UInt8):Option (Int×Bool) :=
 (bU a0 a1 (0,(a0.length:Int))).bind λ(x6:Int)=>cond (decide (x6<(a0.length:Int))) ((iO a0 x6).bind λ(x7:aA)=>(eX x7 a1).bind λ(x8:Int)=>some (x6,(x8==0))) (some (x6,false))
def dJ(a0:List aA)(a1:List UInt8)(r:Int×Bool):AV×WH:=((.tuple [(.int .i64 r.1),(.bool r.2)]),[])
theorem bY(d:Nat){a0:List aA}{a1:List UInt8}{r:Int×Bool}(h:bg a0 a1=some r):Spec (bn bG (d+4)) 109 [(bX a0),(.str a1),(.func 110 [])] [] (dJ a0 a1 r).1 (dJ a0 a1 r).2:=by
 unfold bg at h
 exact bZ nB R7 h (.bd λx6 q6=>Lp [none,none,none,none,none,none] [] [.slice none 2 0 0 true,.undef,.undef,.undef,.undef,.undef] (fO (d+0) q6)<|.br 39 (λ_=>.bd λx7 q7=>Ix aO 43 q7<|.bd λx8 q8=>tV (mZ (d+0) q8)<|Fn Fo [] none) λ_=>Fn Fo [] none)
def mG(key:List UInt8):Option (Int×Bool) :=
 (bg [] key).bind λ(x1:Int×Bool)=>some (x1.1,x1.2)
def m_(key:List UInt8)(r:Int×Bool):AV×WH:=((.tuple [(.int .i64 r.1),(.bool r.2)]),[(some (.cells [(.slice none 2 0 0 true)] false false))])
theorem vX(d:Nat){key:List UInt8}{r:Int×Bool}(h:mG key=some r):Spec (bn bG (d+5)) 82 [(.ptr (some (0,0))),(.str key)] [(some (.cells [(.slice none 2 0 0 true)] false false))] (m_ key r).1 (m_ key r).2:=by
 unfold mG at h
 exact bZ nB QT h (.bd λx1 q1=>Cb [.slice none 2 0 0 true] (bY (d+0) q1)<|Fn Fo [] none)
def nI(k:Int)(value:List UInt8):Option (List aA) :=
 gd (d9 32 0) ((iO ([]:List aA) k).bind λ(x2:aA)=>some (([]:List aA).set k.toNat (⟨x2.Key,value⟩:aA)))
def eG(k:Int)(value:List UInt8)(r:List aA):AV×WH:=((.tuple []),[(some (.cells [(.acc 1 0 2 r.length true)] false false)),(some (.cells (aH r) false true))])
theorem xK(d:Nat){k:Int}{value:List UInt8}{r:List aA}(h:nI k value=some r):Spec (bn bG (d+2)) 112 [(.ptr (some (0,0))),(.int .i64 k),(.str value)] [(some (.cells [(.slice none 2 0 0 true)] false false))] (eG k value r).1 (eG k value r).2:=by
 unfold nI at h
 exact bZ (vD _) MK h (.gd λq1=>.ob q1<|.st none<|.bd λx2 q2=>.v 20 (.ptr (some (1,0+k.toNat*2)))<|.ob (I4 aO q2:wP (.fG 2 (.c (.acc 1 0 2 0 true)) (.c (.int .i64 k)))=some (.ptr (some (1,0+k.toNat*2))))<|.st (some (aH (([]:List aA).set k.toNat (⟨x2.Key,value⟩:aA))))<|.ob (Eb (o:=1) aO q2 rfl:Fg (aH ([]:List aA)) (0+k.toNat*2+1) [(.str value)]=some (aH (([]:List aA).set k.toNat (⟨x2.Key,value⟩:aA))))<|.vk (.fin (some false) [] none) _ (λr=>@Eq AV (.tuple []) (eG k value r).1∧@Eq WH [(some (.cells [(.acc 1 0 2 0 true)] false false)),(some (.cells (aH (([]:List aA).set k.toNat (⟨x2.Key,value⟩:aA))) false true))] (eG k value r).2) (by show _∧_;(try rw[show AV.list 2 ([]:List aA).length (aH (([]:List aA).set k.toNat (⟨x2.Key,value⟩:aA))) false=bX (([]:List aA).set k.toNat (⟨x2.Key,value⟩:aA))from by simp only[bX,bV]]);refine⟨?_, ?_⟩<;>first | rfl |(simp only[eG,bV,aG,List.length_replicate,bA,eB,aQ,aJ,Nat.add_zero,Nat.zero_add];done) | simp[eG]))
def nJ(o:aW)(k:Int)(had:Bool):Option (aR×List aA) :=
 cond had ((nI k o.Value).bind λ(x1:List aA)=>some ((⟨0,([]:List UInt8)⟩:aR),x1)) (gd (d9 32 0) (gd (BX 32 k 0) (some ((⟨0,([]:List UInt8)⟩:aR),(jO ([]:List aA) k (⟨o.Key,o.Value⟩:aA))))))
def nU(o:aW)(k:Int)(had:Bool)(r:aR×List aA):AV×WH:=((.agg (cZ r.1)),[(some (.cells [(.acc 1 0 2 r.2.length true)] false false)),(some (.cells (aH r.2) false true))])
theorem xL(d:Nat){o:aW}{k:Int}{had:Bool}{r:aR×List aA}(h:nJ o k had=some r):Spec (bn bG (d+3)) 83 [(.ptr (some (0,0))),(.agg (bT o)),(.int .i64 k),(.bool had)] [(some (.cells [(.slice none 2 0 0 true)] false false))] (nU o k had r).1 (nU o k had r).2:=by
 unfold nJ at h
 exact bZ (vD _) QU h (.br 25 (λ_=>.bd λx1 q1=>I8 (xK (d+0) q1)<|.st none<|Fn Fo [] none) λ_=>.gd λq2=>.ob q2<|.gd λq3=>.ob (Ec q3:(0≤k∧k≤((0:Nat):Int)))<|.ap 22 (jO ([]:List aA) k (⟨o.Key,o.Value⟩:aA)).length (aH (jO ([]:List aA) k (⟨o.Key,o.Value⟩:aA)))<|.ob (Ed (l:=([]:List aA)) q3:0+1=(jO ([]:List aA) k (⟨o.Key,o.Value⟩:aA)).length)<|.ob (Ee aO rfl:(aH ([]:List aA)).take (k.toNat*2)++([(.str o.Key),(.str o.Value)]++(aH ([]:List aA)).drop (k.toNat*2))=aH (jO ([]:List aA) k (⟨o.Key,o.Value⟩:aA)))<|.ob (G7 (l:=([]:List aA)) q3:d9 32 (jO ([]:List aA) k (⟨o.Key,o.Value⟩:aA)).length=true)<|.st none<|.st none<|Fn Fo [] none)
def fB(k:Int)(value:List UInt8)(aV:List aA):Option (List aA) :=
 gd (d9 32 aV.length) ((iO aV k).bind λ(x2:aA)=>some (aV.set k.toNat (⟨x2.Key,value⟩:aA)))
def dR(k:Int)(value:List UInt8)(aV:List aA)(r:List aA):AV×WH:=((.tuple []),[(some (.cells [(.acc 2 0 2 r.length true)] false false)),(some (.cells (aH aV) false true)),(some (.cells (aH r) false true))])
theorem nV(d:Nat){k:Int}{value:List UInt8}{aV:List aA}{r:List aA}(h:fB k value aV=some r):Spec (bn bG (d+2)) 112 [(.ptr (some (0,0))),(.int .i64 k),(.str value)] [(some (.cells [(.acc 1 0 2 aV.length true)] false false)),(some (.cells (aH aV) false true))] (dR k value aV r).1 (dR k value aV r).2:=by
 unfold fB at h
 exact bZ (vD _) MK h (.gd λq1=>.ob q1<|.st none<|.bd λx2 q2=>Ia aO 20 2 q2<|.st (some (aH (aV.set k.toNat (⟨x2.Key,value⟩:aA))))<|.ob (Eb (o:=1) aO q2 rfl:Fg (aH aV) (0+k.toNat*2+1) [(.str value)]=some (aH (aV.set k.toNat (⟨x2.Key,value⟩:aA))))<|.vk (.fin (some false) [] none) _ (λr=>@Eq AV (.tuple []) (dR k value aV r).1∧@Eq WH [(some (.cells [(.acc 2 0 2 aV.length true)] false false)),(some (.cells (aH aV) false true)),(some (.cells (aH (aV.set k.toNat (⟨x2.Key,value⟩:aA))) false true))] (dR k value aV r).2) (by show _∧_;(try rw[show AV.list 2 aV.length (aH (aV.set k.toNat (⟨x2.Key,value⟩:aA))) false=bX (aV.set k.toNat (⟨x2.Key,value⟩:aA))from by simp only[bX,bV]]);refine⟨?_, ?_⟩<;>first | rfl |(simp only[dR,bV,aG,List.length_replicate,bA,eB,aQ,aJ,Nat.add_zero,Nat.zero_add];done) | simp[dR]))
def gX(o:aW)(k:Int)(aV:List aA):Option (aR×List aA) :=
 (iO aV k).bind λ(x1:aA)=>cond (!(x1.Value==o.Old)) (some ((⟨6,x1.Value⟩:aR),aV)) ((fB k o.Value aV).bind λ(x2:List aA)=>some ((⟨0,([]:List UInt8)⟩:aR),x2))
def lY(o:aW)(k:Int)(aV:List aA)(r:aR×List aA):AV×WH:=((.agg (cZ r.1)),[(some (.cells [(.acc 2 0 2 r.2.length true)] false false)),none,(some (.cells (aH r.2) false true))])
theorem nW(d:Nat){o:aW}{k:Int}{aV:List aA}{r:aR×List aA}(h:gX o k aV=some r):Spec (bn bG (d+3)) 84 [(.ptr (some (0,0))),(.agg (bT o)),(.int .i64 k)] [(some (.cells [(.acc 1 0 2 aV.length true)] false false)),(some (.cells (aH aV) false true))] (lY o k aV r).1 (lY o k aV r).2:=by
 unfold gX at h
 exact bZ nB R6 h (.bd λx1 q1=>Ia aO 13 1 q1<|Ld aO 15 false 1 1 q1 (.str x1.Value) rfl<|.br 19 (λ_=>.st none<|Fn Fo [] Tw) λ_=>.bd λx2 q2=>I8 (nV (d+0) q2)<|.st none<|.kl [1]<|Fn Fo [] Tw)
def pK(o:aW):Option (aR×List aA) :=
 (jD o).bind λ(x1:Bool)=>cond (!x1) (some ((⟨1,([]:List UInt8)⟩:aR),[])) ((mG o.Key).bind λ(x2:Int×Bool)=>cond (o.Kind==2) ((nJ o x2.1 x2.2).bind λ(x3:aR×List aA)=>some (x3.1,x3.2)) (cond (!x2.2) (some ((⟨4,([]:List UInt8)⟩:aR),[])) (cond (o.Kind==1) (none) (cond (o.Kind==4) ((gX o x2.1 []).bind λ(x4:aR×List aA)=>some (x4.1,x4.2)) (gd (d9 32 0) (gd (G8 x2.1 (IntKind.i64.wrap (x2.1+1)) 0) (some ((⟨0,([]:List UInt8)⟩:aR),(pE ([]:List aA) x2.1 (IntKind.i64.wrap (x2.1+1)))))))))))
def dh(o:aW)(r:aR×List aA):AV×WH:=((.agg (cZ r.1)),[(some (.cells [(.acc 1 0 2 r.2.length true)] false false)),(some (.cells (aH r.2) false true))])
theorem yP(d:Nat){o:aW}{r:aR×List aA}(h:pK o=some r):Spec (bn bG (d+6)) 46 [(.ptr (some (0,0))),(.agg (bT o))] [(some (.cells [(.slice none 2 0 0 true)] false false))] (dh o r).1 (dh o r).2:=by
 unfold pK at h
 exact bZ (vD _) QS h (.bd λx1 q1=>tV (qG (d+4) q1)<|.br 9 (λ_=>.st none<|.vk (.fin (some false) [] (some true)) _ (λr=>@Eq AV (.agg (cZ (⟨1,([]:List UInt8)⟩:aR))) (dh o r).1∧@Eq WH [(some (.cells [(.acc 1 0 2 0 true)] false false)),(some (.cells (aH []) false true))] (dh o r).2) (by show _∧_;refine⟨?_, ?_⟩<;>first | rfl |(simp only[dh,bV,aG,List.length_replicate,bA,eB,aQ,aJ,Nat.add_zero,Nat.zero_add];done) | simp[dh])) λ_=>.bd λx2 q2=>I8 (vX (d+0) q2)<|.br 18 (λ_=>.bd λx3 q3=>I8 (xL (d+2) q3)<|.st none<|Fn Fo [] Tw) λ_=>.br 27 (λ_=>.st none<|.vk (.fin (some false) [] (some true)) _ (λr=>@Eq AV (.agg (cZ (⟨4,([]:List UInt8)⟩:aR))) (dh o r).1∧@Eq WH [(some (.cells [(.acc 1 0 2 0 true)] false false)),(some (.cells (aH []) false true))] (dh o r).2) (by show _∧_;refine⟨?_, ?_⟩<;>first | rfl |(simp only[dh,bV,aG,List.length_replicate,bA,eB,aQ,aJ,Nat.add_zero,Nat.zero_add];done) | simp[dh])) λ_=>.br 31 (λ_=>.fail) λ_=>.br 44 (λ_=>.bd λx4 q4=>Cl [] Tw [] (nW (d+2) q4)<|.st none<|Fn Fo [] Tw) λ_=>.gd λq5=>.ob q5<|.gd λq6=>.ob (Ef q6:(0≤x2.1∧x2.1<(IntKind.i64.wrap (x2.1+1))∧(IntKind.i64.wrap (x2.1+1))≤((0:Nat):Int)))<|.ap 61 (pE ([]:List aA) x2.1 (IntKind.i64.wrap (x2.1+1))).length (aH (pE ([]:List aA) x2.1 (IntKind.i64.wrap (x2.1+1))))<|.ob (G9 (l:=([]:List aA)) q6:0-((IntKind.i64.wrap (x2.1+1)).toNat-x2.1.toNat)=(pE ([]:List aA) x2.1 (IntKind.i64.wrap (x2.1+1))).length)<|.ob (Eh aO:(aH ([]:List aA)).take (x2.1.toNat*2)++(aH ([]:List aA)).drop ((IntKind.i64.wrap (x2.1+1)).toNat*2)=aH (pE ([]:List aA) x2.1 (IntKind.i64.wrap (x2.1+1))))<|.st none<|.st none<|Fn Fo [] Tw)
def nK(aV:List aA):Option (Int) :=
 some (aV.length:Int)
def nX(aV:List aA)(r:Int):AV×WH:=((.int .i64 r),[(some (.cells [(.acc 1 0 2 aV.length true)] false false)),(some (.cells (aH aV) false true))])
theorem xM(d:Nat){aV:List aA}{r:Int}(h:nK aV=some r):Spec (bn bG (d+1)) 47 [(.ptr (some (0,0)))] [(some (.cells [(.acc 1 0 2 aV.length true)] false false)),(some (.cells (aH aV) false true))] (nX aV r).1 (nX aV r).2:=by
 unfold nK at h
 exact bZ nB R5 h (Fn Fo [] none)
def iR(key:List UInt8)(aV:List aA):Option (Int×Bool) :=
 (bg aV key).bind λ(x1:Int×Bool)=>some (x1.1,x1.2)
def lK(key:List UInt8)(aV:List aA)(r:Int×Bool):AV×WH:=((.tuple [(.int .i64 r.1),(.bool r.2)]),[(some (.cells [(.acc 1 0 2 aV.length true)] false false)),(some (.cells (aH aV) false true))])
theorem tZ(d:Nat){key:List UInt8}{aV:List aA}{r:Int×Bool}(h:iR key aV=some r):Spec (bn bG (d+5)) 82 [(.ptr (some (0,0))),(.str key)] [(some (.cells [(.acc 1 0 2 aV.length true)] false false)),(some (.cells (aH aV) false true))] (lK key aV r).1 (lK key aV r).2:=by
 unfold iR at h
 exact bZ nB QT h (.bd λx1 q1=>Cb [.slice none 2 0 0 true] (bY (d+0) q1)<|Fn Fo [] none)
def jf(o:aW)(k:Int)(had:Bool)(aV:List aA):Option (aR×List aA) :=
 cond had ((fB k o.Value aV).bind λ(x1:List aA)=>some ((⟨0,([]:List UInt8)⟩:aR),x1)) (cond ((aV.length:Int)==8) (some ((⟨5,([]:List UInt8)⟩:aR),aV)) (gd (d9 32 aV.length) (gd (BX 32 k aV.length) (some ((⟨0,([]:List UInt8)⟩:aR),(jO aV k (⟨o.Key,o.Value⟩:aA)))))))
def lZ(o:aW)(k:Int)(had:Bool)(aV:List aA)(r:aR×List aA):AV×WH:=((.agg (cZ r.1)),[(some (.cells [(.acc 2 0 2 r.2.length true)] false false)),none,(some (.cells (aH r.2) false true))])
theorem uP(d:Nat){o:aW}{k:Int}{had:Bool}{aV:List aA}{r:aR×List aA}(h:jf o k had aV=some r):Spec (bn bG (d+3)) 83 [(.ptr (some (0,0))),(.agg (bT o)),(.int .i64 k),(.bool had)] [(some (.cells [(.acc 1 0 2 aV.length true)] false false)),(some (.cells (aH aV) false true))] (lZ o k had aV r).1 (lZ o k had aV r).2:=by
 unfold jf at h
 exact bZ (vD _) QU h (.br 25 (λ_=>.bd λx1 q1=>I8 (nV (d+0) q1)<|.st none<|.kl [1]<|Fn Fo [] Tw) λ_=>.br 32 (λ_=>.st none<|Fn Fo [] Tw) λ_=>.gd λq2=>.ob q2<|.gd λq3=>.ob (Ec q3:(0≤k∧k≤((aV.length:Nat):Int)))<|.ap 22 (jO aV k (⟨o.Key,o.Value⟩:aA)).length (aH (jO aV k (⟨o.Key,o.Value⟩:aA)))<|.ob (Ed (l:=aV) q3:aV.length+1=(jO aV k (⟨o.Key,o.Value⟩:aA)).length)<|.ob (Ee aO rfl:(aH aV).take (k.toNat*2)++([(.str o.Key),(.str o.Value)]++(aH aV).drop (k.toNat*2))=aH (jO aV k (⟨o.Key,o.Value⟩:aA)))<|.ob (G7 (l:=aV) q3:d9 32 (jO aV k (⟨o.Key,o.Value⟩:aA)).length=true)<|.st none<|.st none<|.kl [1]<|Fn Fo [] Tw)
def gD(o:aW)(aV:List aA):Option (aR×List aA) :=
 (jD o).bind λ(x1:Bool)=>cond (!x1) (some ((⟨1,([]:List UInt8)⟩:aR),aV)) ((iR o.Key aV).bind λ(x2:Int×Bool)=>cond (o.Kind==2) ((jf o x2.1 x2.2 aV).bind λ(x3:aR×List aA)=>some (x3.1,x3.2)) (cond (!x2.2) (some ((⟨4,([]:List UInt8)⟩:aR),aV)) (cond (o.Kind==1) ((iO aV x2.1).bind λ(x4:aA)=>some ((⟨0,x4.Value⟩:aR),aV)) (cond (o.Kind==4) ((gX o x2.1 aV).bind λ(x5:aR×List aA)=>some (x5.1,x5.2)) (gd (d9 32 aV.length) (gd (G8 x2.1 (IntKind.i64.wrap (x2.1+1)) aV.length) (some ((⟨0,([]:List UInt8)⟩:aR),(pE aV x2.1 (IntKind.i64.wrap (x2.1+1)))))))))))
def ng(o:aW)(aV:List aA)(r:aR×List aA):AV×WH:=((.agg (cZ r.1)),[(some (.cells [(.acc 2 0 2 r.2.length true)] false false)),none,(some (.cells (aH r.2) false true))])
theorem pO(d:Nat){o:aW}{aV:List aA}{r:aR×List aA}(h:gD o aV=some r):Spec (bn bG (d+6)) 46 [(.ptr (some (0,0))),(.agg (bT o))] [(some (.cells [(.acc 1 0 2 aV.length true)] false false)),(some (.cells (aH aV) false true))] (ng o aV r).1 (ng o aV r).2:=by
 unfold gD at h
 exact bZ (vD _) QS h (.bd λx1 q1=>tV (qG (d+4) q1)<|.br 9 (λ_=>.st none<|Fn Fo [] Tw) λ_=>.bd λx2 q2=>I8 (tZ (d+0) q2)<|.br 18 (λ_=>.bd λx3 q3=>I8 (uP (d+2) q3)<|.st none<|Fn Fo [] Tw) λ_=>.br 27 (λ_=>.st none<|Fn Fo [] Tw) λ_=>.br 31 (λ_=>.bd λx4 q4=>Ia aO 40 1 q4<|Ld aO 42 false 1 1 q4 (.str x4.Value) rfl<|.st none<|Fn Fo [] Tw) λ_=>.br 44 (λ_=>.bd λx5 q5=>I8 (nW (d+2) q5)<|.st none<|Fn Fo [] Tw) λ_=>.gd λq6=>.ob q6<|.gd λq7=>.ob (Ef q7:(0≤x2.1∧x2.1<(IntKind.i64.wrap (x2.1+1))∧(IntKind.i64.wrap (x2.1+1))≤((aV.length:Nat):Int)))<|.ap 61 (pE aV x2.1 (IntKind.i64.wrap (x2.1+1))).length (aH (pE aV x2.1 (IntKind.i64.wrap (x2.1+1))))<|.ob (G9 (l:=aV) q7:aV.length-((IntKind.i64.wrap (x2.1+1)).toNat-x2.1.toNat)=(pE aV x2.1 (IntKind.i64.wrap (x2.1+1))).length)<|.ob (Eh aO:(aH aV).take (x2.1.toNat*2)++(aH aV).drop ((IntKind.i64.wrap (x2.1+1)).toNat*2)=aH (pE aV x2.1 (IntKind.i64.wrap (x2.1+1))))<|.st none<|.st none<|.kl [1]<|Fn Fo [] Tw)
def jg :Option (Bool) :=
 (pK (⟨2,[97],[49],([]:List UInt8)⟩:aW)).bind λ(x1:aR×List aA)=>(gD (⟨4,[97],[50],[51]⟩:aW) x1.2).bind λ(x2:aR×List aA)=>cond (x1.1.Why==0&&(x1.1.Value==([]:List UInt8)&&true)) (cond (x2.1.Why==6&&(x2.1.Value==[49]&&true)) ((nK x2.2).bind λ(x3:Int)=>some (x3==1)) (some false)) (some false)
def l5(r:Bool):AV×WH:=((.bool r),[])
theorem uQ(d:Nat) {r:Bool}(h:jg=some r):Spec (bn bG (d+7)) 49 [] [] (l5 r).1 (l5 r).2:=by
 unfold jg at h
 exact bZ nB TH h (.z 4 [.agg [.slice none 2 0 0 true]]<|.z 1 [.slice none 2 0 0 true]<|.st none<|.bd λx1 q1=>I8 (yP (d+0) q1)<|.st none<|.bd λx2 q2=>I8 (pO (d+0) q2)<|.st none<|.br 12 (λ_=>.br 17 (λ_=>.bd λx3 q3=>I8 (xM (d+5) q3)<|Fn Fo [] none) λ_=>Fn Fo [] none) λ_=>Fn Fo [] none)
def lM(p:List aA)(s5:Int×List aA):List AV×WH:=([(.ptr (some (0,0))),(.ptr (some (1,0))),(bX p),(.int .i64 (p.length:Int)),(.int .i64 s5.1)],[(some (.cells [(.acc 2 0 2 0 true)] false false)),(some (.cells [(.acc 3 0 2 s5.2.length true)] false false)),(some (.cells (aH []) false true)),(some (.cells (aH s5.2) false true))])
def nL(p:List aA):(List aA)→Ex×Fast×WH:=λe=>((.exit 0),[(2,(.ptr (some (0,0)))),(3,(.ptr (some (1,0))))],[(some (.cells [(.acc 2 0 2 0 true)] false false)),(some (.cells [(.acc 3 0 2 e.length true)] false false)),(some (.cells (aH []) false true)),(some (.cells (aH e) false true))])
abbrev Bu(p:List aA):=pz [2,3,6,7,8] (lM p) (nL p)
def jc(p:List aA)(s5:Int×List aA):Option ((Int×List aA)⊕((List aA))) :=
 cond (decide (s5.1<(p.length:Int))) ((iO p s5.1).bind λ(x6:aA)=>(gD (⟨2,x6.Key,x6.Value,([]:List UInt8)⟩:aW) s5.2).bind λ(x7:aR×List aA)=>some (.inl ((IntKind.i64.wrap (s5.1+1)),x7.2))) (some (.inr s5.2))
def t_(p:List aA)(s5:Int×List aA):Option ((List aA)):=lX (jc p) KK s5
theorem Ce(d:Nat){p:List aA}{s5:Int×List aA}{r:(Int×List aA)⊕((List aA))}(h:jc p s5=some r):kM (bO (bn bG (d+6)) KK 20 Hw) 0 (I6 [2,3,6,7,8] (lM p s5)) (Bu p r):=by
 unfold jc at h
 exact iN nB JU h (.br 9 (λ_=>.bd λx6 q6=>Ix aO 10 q6<|.st none<|.bd λx7 q7=>I8 (pO (d+0) q7)<|E1 [2,3,6,7,8] [none,none,none,none,none] [] [.undef,.undef,.slice none 2 0 0 true,.undef,.undef]) λ_=>E0 [2,3])
theorem Cg(d:Nat){p:List aA}{s5:Int×List aA}{r:(List aA)}(h:t_ p s5=some r):kM (nS (bO (bn bG (d+6)) KK 20 Hw) [2,3,6,7,8] KK) 0 (I6 [2,3,6,7,8] (lM p s5)) (nL p r) :=
 qw (st:=lM p) (fin:=nL p) (step:=jc p) (λe=>by(intro h;cases h)) (λs x h=>Ce d h) KK s5 r h
def qZ(p:List aA):Option (aT) :=
 (t_ p (0,[])).bind λ(x8:(List aA))=>some (⟨x8⟩:aT)
def xO(p:List aA)(r:aT):AV×WH:=((.agg (bM r)),[])
theorem Bv(d:Nat){p:List aA}{r:aT}(h:qZ p=some r):Spec (bn bG (d+7)) 52 [(bX p)] [] (xO p r).1 (xO p r).2:=by
 unfold qZ at h
 exact bZ nB TK h (.z 2 [.slice none 2 0 0 true]<|.z 3 [.slice none 2 0 0 true]<|.bd λx8 q8=>Lp [none,none,none,none,none] [Tw,Tw,Tw,Tw] [.undef,.undef,.slice none 2 0 0 true,.undef,.undef] (Cg (d+0) q8)<|.st none<|Fn Fo [.agg [.slice none 2 0 0 true]] none)
def dA(t:aT):Option (List aA) :=
 gd (d9 32 t.l.length) (some t.l)
def kL(t:aT)(r:List aA):AV×WH:=((bX r),[(some (.cells (bM t) false false))])
theorem eT(d:Nat){t:aT}{r:List aA}(h:dA t=some r):Spec (bn bG (d+2)) 48 [(.ptr (some (0,0)))] [(some (.cells (bM t) false false))] (kL t r).1 (kL t r).2:=by
 unfold dA at h
 exact bZ (vD _) TG h (.z 2 [.slice none 2 0 0 true]<|.gd λq1=>.ob q1<|Fn Fo [.slice none 2 0 0 true] none)
def fZ(a:List aA)(xP:List aA)(s3:Int):List AV×WH:=([(bX a),(bX xP),(.int .i64 (a.length:Int)),(.int .i64 s3)],[])
def iF(a:List aA)(xP:List aA):Unit⊕Unit→Ex×Fast×WH:=fun
 |.inl e=>(.ret,[(4,(.bool false))],[])
 |.inr e=>((.exit 0),[],[])
abbrev rY(a:List aA)(xP:List aA):=pz [0,1,12,13] (fZ a xP) (iF a xP)
def dS(a:List aA)(xP:List aA)(s3:Int):Option ((Int)⊕(Unit⊕Unit)) :=
 cond (decide (s3<(a.length:Int))) ((iO a s3).bind λ(x4:aA)=>(iO xP s3).bind λ(x5:aA)=>cond (!(x4.Key==x5.Key&&(x4.Value==x5.Value&&true))) (some (.inr (.inl ()))) (some (.inl (IntKind.i64.wrap (s3+1))))) (some (.inr (.inr ())))
def jT(a:List aA)(xP:List aA)(s3:Int):Option (Unit⊕Unit):=lX (dS a xP) KK s3
theorem sO(d:Nat){a:List aA}{xP:List aA}{s3:Int}{r:(Int)⊕(Unit⊕Unit)}(h:dS a xP s3=some r):kM (bO (bn bG (d+0)) KK 26 Hy) 0 (I6 [0,1,12,13] (fZ a xP s3)) (rY a xP r):=by
 unfold dS at h
 exact iN nB JW h (.br 14 (λ_=>.bd λx4 q4=>Ix aO 18 q4<|.bd λx5 q5=>Ix aO 22 q5<|.br 24 (λ_=>E0 [4]) λ_=>E1 [0,1,12,13] [none,none,none,none] [] [.slice none 2 0 0 true,.slice none 2 0 0 true,.undef,.undef]) λ_=>E0 [])
theorem l6(d:Nat){a:List aA}{xP:List aA}{s3:Int}{r:Unit⊕Unit}(h:jT a xP s3=some r):kM (nS (bO (bn bG (d+0)) KK 26 Hy) [0,1,12,13] KK) 0 (I6 [0,1,12,13] (fZ a xP s3)) (iF a xP r) :=
 qw (st:=fZ a xP) (fin:=iF a xP) (step:=dS a xP) (λe=>by rcases e with e | e<;>(intro h;cases h)) (λs x h=>sO d h) KK s3 r h
def eY(a:List aA)(xP:List aA):Option (Bool) :=
 cond ((a.length:Int) != (xP.length:Int)) (some false) ((jT a xP 0).bind λ(x6:Unit⊕Unit)=>cond (zN x6) (some false) (some true))
def ni(a:List aA)(xP:List aA)(r:Bool):AV×WH:=((.bool r),[])
theorem kH(d:Nat){a:List aA}{xP:List aA}{r:Bool}(h:eY a xP=some r):Spec (bn bG (d+1)) 53 [(bX a),(bX xP)] [] (ni a xP r).1 (ni a xP r).2:=by
 unfold eY at h
 exact bZ nB TL h (.br 10 (λ_=>Fn Fo [] none) λ_=>.bd λx6 q6=>.ite (λQW=>Lp [none,none,none,none] [] [.slice none 2 0 0 true,.slice none 2 0 0 true,.undef,.undef] (I7 (il QW) (l6 (d+0) q6))<|Fn Fo [] none) λQW=>Lp [none,none,none,none] [] [.slice none 2 0 0 true,.slice none 2 0 0 true,.undef,.undef] (I7 (QI QW) (l6 (d+0) q6))<|Fn Fo [] none)
def jh(t:aT):Option (Int) :=
 some (t.l.length:Int)
def l7(t:aT)(r:Int):AV×WH:=((.int .i64 r),[(some (.cells (bM t) false false))])
theorem uR(d:Nat){t:aT}{r:Int}(h:jh t=some r):Spec (bn bG (d+1)) 47 [(.ptr (some (0,0)))] [(some (.cells (bM t) false false))] (l7 t r).1 (l7 t r).2:=by
 unfold jh at h
 exact bZ nB R5 h (Fn Fo [] none)
def iT(key:List UInt8)(t:aT):Option (Int×Bool) :=
 (bg t.l key).bind λ(x1:Int×Bool)=>some (x1.1,x1.2)
def lN(key:List UInt8)(t:aT)(r:Int×Bool):AV×WH:=((.tuple [(.int .i64 r.1),(.bool r.2)]),[(some (.cells (bM t) false false))])
theorem uf(d:Nat){key:List UInt8}{t:aT}{r:Int×Bool}(h:iT key t=some r):Spec (bn bG (d+5)) 82 [(.ptr (some (0,0))),(.str key)] [(some (.cells (bM t) false false))] (lN key t r).1 (lN key t r).2:=by
 unfold iT at h
 exact bZ nB QT h (.bd λx1 q1=>Cb [.slice none 2 0 0 true] (bY (d+0) q1)<|Fn Fo [] none)
def fC(k:Int)(value:List UInt8)(t:aT):Option (List aA) :=
 gd (d9 32 t.l.length) ((iO t.l k).bind λ(x2:aA)=>some (t.l.set k.toNat (⟨x2.Key,value⟩:aA)))
def dU(k:Int)(value:List UInt8)(t:aT)(r:List aA):AV×WH:=((.tuple []),[(some (.cells [(.acc 1 0 2 r.length true)] false false)),(some (.cells (aH r) false true))])
theorem nY(d:Nat){k:Int}{value:List UInt8}{t:aT}{r:List aA}(h:fC k value t=some r):Spec (bn bG (d+2)) 112 [(.ptr (some (0,0))),(.int .i64 k),(.str value)] [(some (.cells (bM t) false false))] (dU k value t r).1 (dU k value t r).2:=by
 unfold fC at h
 exact bZ (vD _) MK h (.gd λq1=>.ob q1<|.st none<|.bd λx2 q2=>Ia aO 20 1 q2<|.st (some (aH (t.l.set k.toNat (⟨x2.Key,value⟩:aA))))<|.ob (Eb (o:=1) aO q2 rfl:Fg (aH t.l) (0+k.toNat*2+1) [(.str value)]=some (aH (t.l.set k.toNat (⟨x2.Key,value⟩:aA))))<|.vk (.fin (some false) [] none) _ (λr=>@Eq AV (.tuple []) (dU k value t r).1∧@Eq WH [(some (.cells [(.acc 1 0 2 t.l.length true)] false false)),(some (.cells (aH (t.l.set k.toNat (⟨x2.Key,value⟩:aA))) false true))] (dU k value t r).2) (by show _∧_;(try rw[show AV.list 2 t.l.length (aH (t.l.set k.toNat (⟨x2.Key,value⟩:aA))) false=bX (t.l.set k.toNat (⟨x2.Key,value⟩:aA))from by simp only[bX,bV]]);refine⟨?_, ?_⟩<;>first | rfl |(simp only[dU,bV,aG,List.length_replicate,bA,eB,aQ,aJ,Nat.add_zero,Nat.zero_add];done) | simp[dU]))
def ji(o:aW)(k:Int)(had:Bool)(t:aT):Option (aR×aT) :=
 cond had ((fC k o.Value t).bind λ(x1:List aA)=>some ((⟨0,([]:List UInt8)⟩:aR),(⟨x1⟩:aT))) (cond ((t.l.length:Int)==8) (some ((⟨5,([]:List UInt8)⟩:aR),t)) (gd (d9 32 t.l.length) (gd (BX 32 k t.l.length) (some ((⟨0,([]:List UInt8)⟩:aR),(⟨(jO t.l k (⟨o.Key,o.Value⟩:aA))⟩:aT))))))
def l9(o:aW)(k:Int)(had:Bool)(t:aT)(r:aR×aT):AV×WH:=((.agg (cZ r.1)),[(some (.cells (bM r.2) false false))])
theorem uS(d:Nat){o:aW}{k:Int}{had:Bool}{t:aT}{r:aR×aT}(h:ji o k had t=some r):Spec (bn bG (d+3)) 83 [(.ptr (some (0,0))),(.agg (bT o)),(.int .i64 k),(.bool had)] [(some (.cells (bM t) false false))] (l9 o k had t r).1 (l9 o k had t r).2:=by
 unfold ji at h
 exact bZ (vD _) QU h (.br 25 (λ_=>.bd λx1 q1=>Cl [] Fo [] (nY (d+0) q1)<|.st none<|Fn Fo [] Fo) λ_=>.br 32 (λ_=>.st none<|Fn Fo [] Fo) λ_=>.gd λq2=>.ob q2<|.gd λq3=>.ob (Ec q3:(0≤k∧k≤((t.l.length:Nat):Int)))<|.ap 22 (jO t.l k (⟨o.Key,o.Value⟩:aA)).length (aH (jO t.l k (⟨o.Key,o.Value⟩:aA)))<|.ob (Ed (l:=t.l) q3:t.l.length+1=(jO t.l k (⟨o.Key,o.Value⟩:aA)).length)<|.ob (Ee aO rfl:(aH t.l).take (k.toNat*2)++([(.str o.Key),(.str o.Value)]++(aH t.l).drop (k.toNat*2))=aH (jO t.l k (⟨o.Key,o.Value⟩:aA)))<|.ob (G7 (l:=t.l) q3:d9 32 (jO t.l k (⟨o.Key,o.Value⟩:aA)).length=true)<|.st none<|.st none<|Fn Fo [] Fo)
def jk(o:aW)(k:Int)(t:aT):Option (aR×aT) :=
 (iO t.l k).bind λ(x1:aA)=>cond (!(x1.Value==o.Old)) (some ((⟨6,x1.Value⟩:aR),t)) ((fC k o.Value t).bind λ(x2:List aA)=>some ((⟨0,([]:List UInt8)⟩:aR),(⟨x2⟩:aT)))
def mg(o:aW)(k:Int)(t:aT)(r:aR×aT):AV×WH:=((.agg (cZ r.1)),[(some (.cells (bM r.2) false false))])
theorem uT(d:Nat){o:aW}{k:Int}{t:aT}{r:aR×aT}(h:jk o k t=some r):Spec (bn bG (d+3)) 84 [(.ptr (some (0,0))),(.agg (bT o)),(.int .i64 k)] [(some (.cells (bM t) false false))] (mg o k t r).1 (mg o k t r).2:=by
 unfold jk at h
 exact bZ nB R6 h (.bd λx1 q1=>Ix aO 13 q1<|.br 19 (λ_=>.st none<|Fn Fo [] Fo) λ_=>.bd λx2 q2=>Cl [] Fo [] (nY (d+0) q2)<|.st none<|Fn Fo [] Fo)
def iG(o:aW)(t:aT):Option (aR×aT) :=
 (jD o).bind λ(x1:Bool)=>cond (!x1) (some ((⟨1,([]:List UInt8)⟩:aR),t)) ((iT o.Key t).bind λ(x2:Int×Bool)=>cond (o.Kind==2) ((ji o x2.1 x2.2 t).bind λ(x3:aR×aT)=>some (x3.1,x3.2)) (cond (!x2.2) (some ((⟨4,([]:List UInt8)⟩:aR),t)) (cond (o.Kind==1) ((iO t.l x2.1).bind λ(x4:aA)=>some ((⟨0,x4.Value⟩:aR),t)) (cond (o.Kind==4) ((jk o x2.1 t).bind λ(x5:aR×aT)=>some (x5.1,x5.2)) (gd (d9 32 t.l.length) (gd (G8 x2.1 (IntKind.i64.wrap (x2.1+1)) t.l.length) (some ((⟨0,([]:List UInt8)⟩:aR),(⟨(pE t.l x2.1 (IntKind.i64.wrap (x2.1+1)))⟩:aT)))))))))
def nu(o:aW)(t:aT)(r:aR×aT):AV×WH:=((.agg (cZ r.1)),[(some (.cells (bM r.2) false false))])
theorem vY(d:Nat){o:aW}{t:aT}{r:aR×aT}(h:iG o t=some r):Spec (bn bG (d+6)) 46 [(.ptr (some (0,0))),(.agg (bT o))] [(some (.cells (bM t) false false))] (nu o t r).1 (nu o t r).2:=by
 unfold iG at h
 exact bZ (vD _) QS h (.bd λx1 q1=>tV (qG (d+4) q1)<|.br 9 (λ_=>.st none<|Fn Fo [] Fo) λ_=>.bd λx2 q2=>Cl [] Fo [] (uf (d+0) q2)<|.br 18 (λ_=>.bd λx3 q3=>Cl [] Fo [] (uS (d+2) q3)<|.st none<|Fn Fo [] Fo) λ_=>.br 27 (λ_=>.st none<|Fn Fo [] Fo) λ_=>.br 31 (λ_=>.bd λx4 q4=>Ix aO 40 q4<|.st none<|Fn Fo [] Fo) λ_=>.br 44 (λ_=>.bd λx5 q5=>Cl [] Fo [] (uT (d+2) q5)<|.st none<|Fn Fo [] Fo) λ_=>.gd λq6=>.ob q6<|.gd λq7=>.ob (Ef q7:(0≤x2.1∧x2.1<(IntKind.i64.wrap (x2.1+1))∧(IntKind.i64.wrap (x2.1+1))≤((t.l.length:Nat):Int)))<|.ap 61 (pE t.l x2.1 (IntKind.i64.wrap (x2.1+1))).length (aH (pE t.l x2.1 (IntKind.i64.wrap (x2.1+1))))<|.ob (G9 (l:=t.l) q7:t.l.length-((IntKind.i64.wrap (x2.1+1)).toNat-x2.1.toNat)=(pE t.l x2.1 (IntKind.i64.wrap (x2.1+1))).length)<|.ob (Eh aO:(aH t.l).take (x2.1.toNat*2)++(aH t.l).drop ((IntKind.i64.wrap (x2.1+1)).toNat*2)=aH (pE t.l x2.1 (IntKind.i64.wrap (x2.1+1))))<|.st none<|.st none<|Fn Fo [] Fo)
abbrev nM(s13:Int×List aA×(List (List UInt8×Bool)))(Bw:List UInt8)(turn:Int)(ops:List bK)(zG:Int)(l:List Int):Fast×WH:=([(1,(.int .i64 turn)),(2,(iP ops)),(7,(.acc 0 0 2 s13.2.1.length true)),(8,(.map (some 1))),(10,(.int .i64 zG)),(11,(.str Bw)),(21,(RV l)),(22,(.int .i64 (l.length:Int))),(23,(.int .i64 s13.1))],[(some (.cells (aH s13.2.1) false true)),(some (.map (qF s13.2.2)))])
def ny(s13:Int×List aA×(List (List UInt8×Bool)))(Bw:List UInt8)(turn:Int)(ops:List bK)(zG:Int)(l:List Int):Bool→Ex×Fast×WH:=λe=>(.normal,[(1,(.int .i64 turn)),(2,(iP ops)),(7,(.acc 0 0 2 s13.2.1.length true)),(8,(.map (some 1))),(10,(.int .i64 zG)),(11,(.str Bw)),(21,(RV l)),(22,(.int .i64 (l.length:Int))),(23,(.int .i64 s13.1)),(37,(.bool e))],[(some (.cells (aH s13.2.1) false true)),(some (.map (qF s13.2.2)))])
def eP(s13:Int×List aA×(List (List UInt8×Bool)))(Bw:List UInt8)(turn:Int)(ops:List bK)(zG:Int)(l:List Int):Option (Bool) :=
 (some ((vR s13.2.2 Bw).getD (false:Bool))).bind λ(P_:Bool)=>cond (!P_) (some (decide ((s13.2.1.length:Int)<8))) (some false)
theorem oo(d:Nat){s13:Int×List aA×(List (List UInt8×Bool))}{Bw:List UInt8}{turn:Int}{ops:List bK}{zG:Int}{l:List Int}{r:Bool}(h:eP s13 Bw turn ops zG l=some r):kM (bO (bn bG (d+0)) KK 113 mW) 0 (nM s13 Bw turn ops zG l) (ny s13 Bw turn ops zG l r):=by
 unfold eP at h
 exact iN nB qW h (.bd λP_ q16=>.v 31 (.bool P_)<|.ob (Tg QB rX q16:Fe .s false (rX (false:Bool)) (.str Bw) (qF s13.2.2)=some (.bool P_))<|.br 33 (λ_=>E1 [1,2,7,8,10,11,21,22,23,37] [none,none,none,none,none,none,none,none,none,none] [] [.undef,.slice none 8 0 0 true,.slice none 2 0 0 true,.undef,.undef,.undef,.undef,.undef,.undef,.undef]) λ_=>E1 [1,2,7,8,10,11,21,22,23,37] [none,none,none,none,none,none,none,none,none,none] [] [.undef,.slice none 8 0 0 true,.slice none 2 0 0 true,.undef,.undef,.undef,.undef,.undef,.undef,.undef])
def dW(l:List Int)(turn:Int)(ops:List bK)(s13:Int×List aA×(List (List UInt8×Bool))):List AV×WH:=([(.int .i64 turn),(iP ops),(.acc 0 0 2 s13.2.1.length true),(.map (some 1)),(RV l),(.int .i64 (l.length:Int)),(.int .i64 s13.1)],[(some (.cells (aH s13.2.1) false true)),(some (.map (qF s13.2.2)))])
def fq(l:List Int)(turn:Int)(ops:List bK):(List aA)→Ex×Fast×WH:=λe=>((.exit 0),[(1,(.int .i64 turn)),(2,(iP ops)),(7,(.acc 0 0 2 e.length true))],[(some (.cells (aH e) false true))])
abbrev nN(l:List Int)(turn:Int)(ops:List bK):=pz [1,2,7,8,21,22,23] (dW l turn ops) (fq l turn ops)
def dK(l:List Int)(turn:Int)(ops:List bK)(s13:Int×List aA×(List (List UInt8×Bool))):Option ((Int×List aA×(List (List UInt8×Bool)))⊕((List aA))) :=
 cond (decide (s13.1<(l.length:Int))) ((iO l s13.1).bind λ(zG:Int)=>(pI zG).bind λ(Bw:List UInt8)=>(eP s13 Bw turn ops zG l).bind λ(Rk:Bool)=>cond Rk ((iZ (IntKind.i64.wrap (Int.tdiv zG 16))).bind λ(x18:List UInt8)=>gd (d9 32 (s13.2.1++[(⟨Bw,x18⟩:aA)]).length) (some (.inl ((IntKind.i64.wrap (s13.1+1)),(s13.2.1++[(⟨Bw,x18⟩:aA)]),(sN s13.2.2 Bw (true:Bool)))))) (some (.inl ((IntKind.i64.wrap (s13.1+1)),s13.2.1,(sN s13.2.2 Bw (true:Bool)))))) (some (.inr s13.2.1))
def gK(l:List Int)(turn:Int)(ops:List bK)(s13:Int×List aA×(List (List UInt8×Bool))):Option ((List aA)):=lX (dK l turn ops) KK s13
theorem oq(d:Nat){l:List Int}{turn:Int}{ops:List bK}{s13:Int×List aA×(List (List UInt8×Bool))}{r:(Int×List aA×(List (List UInt8×Bool)))⊕((List aA))}(h:dK l turn ops s13=some r):kM (bO (bn bG (d+2)) KK 113 Hr) 0 (I6 [1,2,7,8,21,22,23] (dW l turn ops s13)) (nN l turn ops r):=by
 unfold dK at h
 exact iN nB JO h (.br 24 (λ_=>.bd λzG Si=>Ix Ur 25 Si<|.bd λBw TR=>tV (Ga (d+0) TR)<|.sk<|.bd λRk SA=>Jn [1,2,7,8,10,11,21,22,23] [none,none,none,none,none,none,none,none,none] [] [.undef,.slice none 8 0 0 true,.slice none 2 0 0 true,.undef,.undef,.undef,.undef,.undef,.undef] (oo (d+2) SA)<|.br 37 (λ_=>.bd λx18 TT=>tV (vS (d+0) TT)<|.gd λSB=>Ap aO 45 SB<|.mp (qF (sN s13.2.2 Bw (true:Bool)))<|.ob (PX QB rX _ _ _:Aw .s (.str Bw) (rX (true:Bool)) (qF s13.2.2)=some (qF (sN s13.2.2 Bw (true:Bool))))<|E1 [1,2,7,8,21,22,23] [none,none,none,none,none,none,none] [] [.undef,.slice none 8 0 0 true,.slice none 2 0 0 true,.undef,.undef,.undef,.undef]) λ_=>.mp (qF (sN s13.2.2 Bw (true:Bool)))<|.ob (PX QB rX _ _ _:Aw .s (.str Bw) (rX (true:Bool)) (qF s13.2.2)=some (qF (sN s13.2.2 Bw (true:Bool))))<|E1 [1,2,7,8,21,22,23] [none,none,none,none,none,none,none] [] [.undef,.slice none 8 0 0 true,.slice none 2 0 0 true,.undef,.undef,.undef,.undef]) λ_=>E1 [1,2,7] [none,none,none] [] [.undef,.slice none 8 0 0 true,.slice none 2 0 0 true])
theorem ou(d:Nat){l:List Int}{turn:Int}{ops:List bK}{s13:Int×List aA×(List (List UInt8×Bool))}{r:(List aA)}(h:gK l turn ops s13=some r):kM (nS (bO (bn bG (d+2)) KK 113 Hr) [1,2,7,8,21,22,23] KK) 0 (I6 [1,2,7,8,21,22,23] (dW l turn ops s13)) (fq l turn ops r) :=
 qw (st:=dW l turn ops) (fin:=fq l turn ops) (step:=dK l turn ops) (λe=>by(intro h;cases h)) (λs x h=>oq d h) KK s13 r h
abbrev nO(Je:aT)(x27:aT)(x20:(List aA))(ops:List bK):Fast×WH:=([(2,(iP ops)),(7,(.acc 0 0 2 x20.length true)),(13,(.ptr (some (1,0)))),(14,(.ptr (some (2,0))))],[(some (.cells (aH x20) true true)),(some (.cells (bM Je) false false)),(some (.cells (bM x27) false false))])
def nA(Je:aT)(x27:aT)(x20:(List aA))(ops:List bK):Unit⊕Unit→Ex×Fast×WH:=fun
 |.inl e=>(.ret,[(6,(.bool false))],[])
 |.inr e=>(.normal,[(2,(iP ops)),(13,(.ptr (some (0,0))))],[(some (.cells (bM Je) false false))])
def dP(Je:aT)(x27:aT)(x20:(List aA))(ops:List bK):Option (Unit⊕Unit) :=
 (jg).bind λ(x28:Bool)=>cond (!x28) (some (.inl ())) ((dA Je).bind λ(x29:List aA)=>(dA x27).bind λ(x30:List aA)=>(eY x29 x30).bind λ(x31:Bool)=>cond (!x31) (some (.inl ())) ((jh Je).bind λ(x32:Int)=>cond (x32 != (x20.length:Int)) (some (.inl ())) (some (.inr ()))))
theorem jl(d:Nat){Je:aT}{x27:aT}{x20:(List aA)}{ops:List bK}{r:Unit⊕Unit}(h:dP Je x27 x20 ops=some r):kM (bO (bn bG (d+7)) KK 113 vC) 0 (nO Je x27 x20 ops) (nA Je x27 x20 ops r):=by
 unfold dP at h
 exact iN nB yK h (.bd λx28 Vo=>tV (uQ (d+0) Vo)<|.br 68 (λ_=>E0 [6]) λ_=>.bd λx29 Vp=>Cl [] Fo [] (eT (d+5) Vp)<|.bd λx30 Vq=>Cl [] Fo [] (eT (d+5) Vq)<|.bd λx31 Vr=>Cb [.slice none 2 0 0 true,.slice none 2 0 0 true] (kH (d+6) Vr)<|.br 74 (λ_=>E0 [6]) λ_=>.bd λx32 q32=>Cl [] Fo [] (uR (d+6) q32)<|.br 79 (λ_=>E0 [6]) λ_=>E1 [2,13] [none,none] [] [.slice none 8 0 0 true,.undef])
def dX(ops:List bK)(s43:Int×aT):List AV×WH:=([(.ptr (some (0,0))),(iP ops),(.int .i64 (ops.length:Int)),(.int .i64 s43.1)],[(some (.cells (bM s43.2) false false))])
def fu(ops:List bK):Unit⊕Unit→Ex×Fast×WH:=fun
 |.inl e=>(.ret,[(6,(.bool false))],[])
 |.inr e=>((.exit 2),[],[])
abbrev nP(ops:List bK):=pz [13,80,81,82] (dX ops) (fu ops)
def dL(ops:List bK)(s43:Int×aT):Option ((Int×aT)⊕(Unit⊕Unit)) :=
 cond (decide (s43.1<(ops.length:Int))) ((iO ops s43.1).bind λ(Sj:bK)=>(dA s43.2).bind λ(TU:List aA)=>(Dj Sj.Kind Sj.Key Sj.Value Sj.Old).bind λ(TV:aW)=>(iG TV s43.2).bind λ(QX:aR×aT)=>cond (TV.Kind==1) ((dA QX.2).bind λ(UD:List aA)=>(eY UD TU).bind λ(UE:Bool)=>cond (!UE) (some (.inr (.inl ()))) (some (.inl ((IntKind.i64.wrap (s43.1+1)),QX.2)))) (cond (QX.1.Why != 0) ((dA QX.2).bind λ(UF:List aA)=>(eY UF TU).bind λ(UG:Bool)=>cond (!UG) (some (.inr (.inl ()))) (some (.inl ((IntKind.i64.wrap (s43.1+1)),QX.2)))) (some (.inl ((IntKind.i64.wrap (s43.1+1)),QX.2))))) (some (.inr (.inr ())))
def gL(ops:List bK)(s43:Int×aT):Option (Unit⊕Unit):=lX (dL ops) KK s43
theorem ow(d:Nat){ops:List bK}{s43:Int×aT}{r:(Int×aT)⊕(Unit⊕Unit)}(h:dL ops s43=some r):kM (bO (bn bG (d+6)) KK 113 Ht) 0 (I6 [13,80,81,82] (dX ops s43)) (nP ops r):=by
 unfold dL at h
 exact iN nB JQ h (.br 83 (λ_=>.bd λSj Vs=>Ix Bf 84 Vs<|.st none<|.bd λTU Vt=>Cl [] Fo [] (eT (d+4) Vt)<|.bd λTV Vu=>tV (Jd (d+3) Vu)<|.st none<|.bd λQX Vv=>Cl [] Fo [] (vY (d+0) Vv)<|.st none<|.br 101 (λ_=>.bd λUD Vw=>Cl [] Fo [] (eT (d+4) Vw)<|.bd λUE Vx=>Cb [.slice none 2 0 0 true,.slice none 2 0 0 true] (kH (d+5) Vx)<|.br 111 (λ_=>E0 [6]) λ_=>E1 [13,80,81,82] [none,none,none,none] [] [.undef,.slice none 8 0 0 true,.undef,.undef]) λ_=>.br 106 (λ_=>.bd λUF Vy=>Cl [] Fo [] (eT (d+4) Vy)<|.bd λUG Vz=>Cb [.slice none 2 0 0 true,.slice none 2 0 0 true] (kH (d+5) Vz)<|.br 111 (λ_=>E0 [6]) λ_=>E1 [13,80,81,82] [none,none,none,none] [] [.undef,.slice none 8 0 0 true,.undef,.undef]) λ_=>E1 [13,80,81,82] [none,none,none,none] [] [.undef,.slice none 8 0 0 true,.undef,.undef]) λ_=>E0 [])
theorem jm(d:Nat){ops:List bK}{s43:Int×aT}{r:Unit⊕Unit}(h:gL ops s43=some r):kM (nS (bO (bn bG (d+6)) KK 113 Ht) [13,80,81,82] KK) 0 (I6 [13,80,81,82] (dX ops s43)) (fu ops r) :=
 qw (st:=dX ops) (fin:=fu ops) (step:=dL ops) (λe=>by rcases e with e | e<;>(intro h;cases h)) (λs x h=>ow d h) KK s43 r h
def f_(l:List Int)(turn:Int)(ops:List bK):Option (Bool) :=
 (gK l turn ops (0,[],([]:List (List UInt8×Bool)))).bind λ(x20:(List aA))=>(dZ turn (IntKind.i64.wrap ((x20.length:Int)+1))).bind λ(x21:Int)=>(qZ x20).bind λ(Je:aT)=>(D_ x20 x21 x20.length).bind λ(x23:List aA)=>gd (d9 32 x23.length) ((D_ x20 0 x21).bind λ(x25:List aA)=>gd (d9 32 (x23++x25).length) ((qZ (x23++x25)).bind λ(x27:aT)=>(dP Je x27 x20 ops).bind λ(UH:Unit⊕Unit)=>cond (zN UH) (some false) ((gL ops (0,Je)).bind λ(UJ:Unit⊕Unit)=>cond (zN UJ) (some false) (some true))))
def jE(l:List Int)(turn:Int)(ops:List bK)(r:Bool):AV×WH:=((.bool r),[])
theorem qH(d:Nat){l:List Int}{turn:Int}{ops:List bK}{r:Bool}(h:f_ l turn ops=some r):Spec (bn bG (d+8)) 10 [(RV l),(.int .i64 turn),(iP ops)] [] (jE l turn ops r).1 (jE l turn ops r).2:=by
 unfold f_ at h
 exact bZ nB TB h (.z 7 [.slice none 2 0 0 true]<|.bd λx20 VA=>Lp [none,none,Tw,none,none,none,none] [] [.undef,.slice none 8 0 0 true,.slice none 2 0 0 true,.undef,.undef,.undef,.undef] (ou (d+5) VA)<|.bd λx21 VB=>tV (eU (d+6) VB)<|.bd λJe q22=>Cl [] Fo [.slice none 2 0 0 true] (Bv (d+0) q22)<|.z 13 [.slice none 2 0 0 true]<|.st none<|.bd λx23 QY=>.v 59 (.acc 0 (0+x21.toNat*2) 2 x23.length false)<|.ob (Bb aO QY:wP (.slice 2 (.c (.acc 0 0 2 x20.length true)) (some (.c (.int .i64 x21))) none none)=some (.acc 0 (0+x21.toNat*2) 2 x23.length false))<|.gd λq24=>.ap 60 x23.length (aH x23)<|.ob (by(try rw[j6 aO QY]);simp:0+x23.length=x23.length)<|.ob (by(try rw[j6 aO QY]);first | rfl | simp[aH]:aH []++((aH x20).drop (0+x21.toNat*2)).take (x23.length*2)=aH x23)<|.ob q24<|.bd λx25 QZ=>.v 63 (.acc 0 0 2 x25.length false)<|.ob (by(try rw[j6 aO QY]);exact Bc aO QZ:wP (.slice 2 (.c (.acc 0 0 2 x20.length true)) none (some (.c (.int .i64 x21))) none)=some (.acc 0 0 2 x25.length false))<|.gd λVD=>.ap 64 (x23++x25).length (aH (x23++x25))<|.ob (by(try rw[j6 aO QY]);(try rw[gI aO QZ]);(try rw[eF aO QZ]);exact zY _ _:x23.length+x25.length=(x23++x25).length)<|.ob (by(try rw[j6 aO QY]);(try rw[gI aO QZ]);(try rw[eF aO QZ]);exact(Row.app aO _ _).symm:aH x23++((aH x20).drop (0)).take (x25.length*2)=aH (x23++x25))<|.ob VD<|.bd λx27 VE=>Cl [] Fo [.slice none 2 0 0 true] (by(try rw[j6 aO QY]);(try rw[gI aO QZ]);(try rw[eF aO QZ]);exact Bv (d+0) VE:Spec (bn bG (d+7)) 52 [(bX (x23++x25))] [] (.agg (bM x27)) [])<|.z 14 [.slice none 2 0 0 true]<|.st none<|.bd λUH UK=>.ite (λQ0=>Jn [2,7,13,14] [none,none,none,none] [] [.slice none 8 0 0 true,.slice none 2 0 0 true,.undef,.undef] (I7 (il Q0) (jl (d+0) UK))<|Fn Fo [] none) λQ0=>Jn [2,7,13,14] [none,none,none,none] [] [.slice none 8 0 0 true,.slice none 2 0 0 true,.undef,.undef] (I7 (QI Q0) (jl (d+0) UK))<|.bd λUJ UL=>.ite (λQ5=>Lp [none,none,none,none] [] [.undef,.slice none 8 0 0 true,.undef,.undef] (I7 (il Q5) (jm (d+1) UL))<|Fn Fo [] none) λQ5=>Lp [none,none,none,none] [] [.undef,.slice none 8 0 0 true,.undef,.undef] (I7 (QI Q5) (jm (d+1) UL))<|Fn Fo [] none)
abbrev yQ(o:aW):Fast×WH:=([(1,(.ptr (some (0,0))))],[(some (.cells (bT o) false false))])
def xQ(o:aW):Unit⊕Unit→Ex×Fast×WH:=fun
 |.inl e=>(.ret,[(2,(.bool false))],[])
 |.inr e=>(.normal,[(1,(.ptr (some (0,0))))],[(some (.cells (bT o) false false))])
def qI(o:aW):Option (Unit⊕Unit) :=
 cond (decide (o.Kind<1)) (some (.inl ())) (cond (decide (o.Kind>4)) (some (.inl ())) (cond (decide ((o.Key.length:Int)<1)) (some (.inl ())) (cond (decide ((o.Key.length:Int)>8)) (some (.inl ())) (cond (decide ((o.Value.length:Int)>16)) (some (.inl ())) (cond (decide ((o.Old.length:Int)>16)) (some (.inl ())) (some (.inr ())))))))
theorem sH(d:Nat){o:aW}{r:Unit⊕Unit}(h:qI o=some r):kM (bO (bn bG (d+0)) KK 58 F5) 0 (yQ o) (xQ o r):=by
 unfold qI at h
 exact iN nB F6 h (.br 6 (λ_=>E0 [2]) λ_=>.br 11 (λ_=>E0 [2]) λ_=>.br 17 (λ_=>E0 [2]) λ_=>.br 23 (λ_=>E0 [2]) λ_=>.br 29 (λ_=>E0 [2]) λ_=>.br 34 (λ_=>E0 [2]) λ_=>E0 [1])
def vZ(o:aW):Option (Bool) :=
 (qI o).bind λ(x1:Unit⊕Unit)=>cond (zN x1) (some false) (cond (o.Value==([]:List UInt8)) (cond (o.Old==([]:List UInt8)) (some true) (some (o.Kind==4))) (cond (o.Kind==2) (cond (o.Old==([]:List UInt8)) (some true) (some (o.Kind==4))) (cond (o.Kind==4) (cond (o.Old==([]:List UInt8)) (some true) (some (o.Kind==4))) (some false))))
def ug(o:aW)(r:Bool):AV×WH:=((.bool r),[])
theorem Ey(d:Nat){o:aW}{r:Bool}(h:vZ o=some r):Spec (bn bG (d+1)) 128 [(.agg (bT o))] [] (ug o r).1 (ug o r).2:=by
 unfold vZ at h
 exact bZ nB Sd h (.sk<|.bd λx1 q1=>.ite (λhb2=>Jn [1] [none] [] [] (I7 (il hb2) (sH (d+0) q1))<|Fn Fo [] none) λhb2=>Jn [1] [none] [] [] (I7 (QI hb2) (sH (d+0) q1))<|.br 38 (λ_=>.br 52 (λ_=>Fn Fo [] none) λ_=>Fn Fo [] none) λ_=>.br 43 (λ_=>.br 52 (λ_=>Fn Fo [] none) λ_=>Fn Fo [] none) λ_=>.br 48 (λ_=>.br 52 (λ_=>Fn Fo [] none) λ_=>Fn Fo [] none) λ_=>Fn Fo [] none)
def gJ(aV:List aA)(key:List UInt8)(s3:Int):List AV×WH:=([(.ptr (some (0,0))),(.str key),(.int .i64 s3)],[(some (.cells [(.acc 1 0 2 aV.length true)] false false)),(some (.cells (aH aV) false true))])
def iU(aV:List aA)(key:List UInt8):(Int×Bool)⊕Unit→Ex×Fast×WH:=fun
 |.inl e=>(.ret,[(4,(.int .i64 e.1)),(5,(.bool e.2))],[(some (.cells [(.acc 1 0 2 aV.length true)] false false)),(some (.cells (aH aV) false true))])
 |.inr e=>((.exit 0),[(0,(.ptr (some (0,0))))],[(some (.cells [(.acc 1 0 2 aV.length true)] false false)),(some (.cells (aH aV) false true))])
abbrev sP(aV:List aA)(key:List UInt8):=pz [0,1,6] (gJ aV key) (iU aV key)
def gY(aV:List aA)(key:List UInt8)(s3:Int):Option ((Int)⊕((Int×Bool)⊕Unit)) :=
 cond (decide (s3<(aV.length:Int))) ((iO aV s3).bind λ(x4:aA)=>cond (!(Op.bytesLess x4.Key key)) ((iO aV s3).bind λ(x5:aA)=>some (.inr (.inl (s3,(x5.Key==key))))) (some (.inl (IntKind.i64.wrap (s3+1))))) (some (.inr (.inr ())))
def pQ(aV:List aA)(key:List UInt8)(s3:Int):Option ((Int×Bool)⊕Unit):=lX (gY aV key) KK s3
theorem uh(d:Nat){aV:List aA}{key:List UInt8}{s3:Int}{r:(Int)⊕((Int×Bool)⊕Unit)}(h:gY aV key s3=some r):kM (bO (bn bG (d+0)) KK 42 Et) 2 (I6 [0,1,6] (gJ aV key s3)) (sP aV key r):=by
 unfold gY at h
 exact iN nB HZ h (.br 13 (λ_=>.bd λx4 q4=>Ia aO 21 1 q4<|Ld aO 23 false 1 0 q4 (.str x4.Key) rfl<|.br 25 (λ_=>.bd λx5 q5=>Ia aO 32 1 q5<|Ld aO 34 false 1 0 q5 (.str x5.Key) rfl<|E0 [4,5]) λ_=>E0 [0,1,6]) λ_=>E0 [0])
theorem nC(d:Nat){aV:List aA}{key:List UInt8}{s3:Int}{r:(Int×Bool)⊕Unit}(h:pQ aV key s3=some r):kM (nS (bO (bn bG (d+0)) KK 42 Et) [0,1,6] KK) 2 (I6 [0,1,6] (gJ aV key s3)) (iU aV key r) :=
 qw (st:=gJ aV key) (fin:=iU aV key) (step:=gY aV key) (λe=>by rcases e with e | e<;>(intro h;cases h)) (λs x h=>uh d h) KK s3 r h
def nQ(key:List UInt8)(aV:List aA):Option (Int×Bool) :=
 (pQ aV key 0).bind λ(x6:(Int×Bool)⊕Unit)=>cond (zN x6) (some ((Ll x6).1,(Ll x6).2)) (some ((aV.length:Int),false))
def nZ(key:List UInt8)(aV:List aA)(r:Int×Bool):AV×WH:=((.tuple [(.int .i64 r.1),(.bool r.2)]),[(some (.cells [(.acc 1 0 2 aV.length true)] false false)),(some (.cells (aH aV) false true))])
theorem xR(d:Nat){key:List UInt8}{aV:List aA}{r:Int×Bool}(h:nQ key aV=some r):Spec (bn bG (d+1)) 129 [(.ptr (some (0,0))),(.str key)] [(some (.cells [(.acc 1 0 2 aV.length true)] false false)),(some (.cells (aH aV) false true))] (nZ key aV r).1 (nZ key aV r).2:=by
 unfold nQ at h
 exact bZ nB Sg h (.bd λx6 q6=>.ite (λQW=>Lp [none,none,none] [] [] (I7 (il QW) (nC (d+0) q6))<|Fn Fo [] none) λQW=>Lp [none,none,none] [] [] (I7 (QI QW) (nC (d+0) q6))<|Fn Fo [] none)
abbrev uU(x2:Int×Bool)(aV:List aA)(o:aW):Fast×WH:=([(0,(.ptr (some (0,0)))),(3,(.ptr (some (2,0)))),(4,(.ptr (some (3,0)))),(5,(.int .i64 x2.1)),(6,(.bool x2.2))],[(some (.cells [(.acc 1 0 2 aV.length true)] false false)),(some (.cells (aH aV) false true)),(some (.cells (bT o) false false)),(some (.cells (cZ (⟨0,([]:List UInt8)⟩:aR)) false false))])
def uj(x2:Int×Bool)(aV:List aA)(o:aW):Unit⊕Unit→Ex×Fast×WH:=fun
 |.inl e=>(.ret,[(4,(.ptr (some (2,0))))],[(some (.cells [(.acc 1 0 2 aV.length true)] false false)),(some (.cells (aH aV) false true)),(some (.cells (cZ (⟨5,([]:List UInt8)⟩:aR)) false false))])
 |.inr e=>(.normal,[(0,(.ptr (some (0,0)))),(3,(.ptr (some (2,0)))),(4,(.ptr (some (3,0)))),(5,(.int .i64 x2.1)),(6,(.bool x2.2))],[(some (.cells [(.acc 1 0 2 aV.length true)] false false)),(some (.cells (aH aV) false true)),(some (.cells (bT o) false false)),(some (.cells (cZ (⟨0,([]:List UInt8)⟩:aR)) false false))])
def mH(x2:Int×Bool)(aV:List aA)(o:aW):Option (Unit⊕Unit) :=
 cond (!x2.2) (cond (decide ((aV.length:Int)≥8)) (some (.inl ())) (some (.inr ()))) (some (.inr ()))
theorem pR(d:Nat){x2:Int×Bool}{aV:List aA}{o:aW}{r:Unit⊕Unit}(h:mH x2 aV o=some r):kM (bO (bn bG (d+0)) KK 147 qy) 2 (uU x2 aV o) (uj x2 aV o r):=by
 unfold mH at h
 exact iN nB tX h (.br 40 (λ_=>.br 47 (λ_=>.st none<|E0 [4]) λ_=>E0 [0,3,4,5,6]) λ_=>E0 [0,3,4,5,6])
abbrev uV(x2:Int×Bool)(x6:List aA)(o:aW)(aV:List aA):Fast×WH:=([(0,(.ptr (some (0,0)))),(4,(.ptr (some (2,0)))),(5,(.int .i64 x2.1)),(6,(.bool x2.2)),(7,(.acc 3 0 2 (x6++[(⟨o.Key,o.Value⟩:aA)]).length true))],[(some (.cells [(.acc 1 0 2 aV.length true)] false false)),(some (.cells (aH aV) false true)),(some (.cells (cZ (⟨0,([]:List UInt8)⟩:aR)) false false)),(some (.cells (aH (x6++[(⟨o.Key,o.Value⟩:aA)])) false true))])
def um(x2:Int×Bool)(x6:List aA)(o:aW)(aV:List aA):Int→Ex×Fast×WH:=λe=>(.normal,[(0,(.ptr (some (0,0)))),(4,(.ptr (some (2,0)))),(5,(.int .i64 e)),(7,(.acc 3 0 2 (x6++[(⟨o.Key,o.Value⟩:aA)]).length true))],[(some (.cells [(.acc 1 0 2 aV.length true)] false false)),(some (.cells (aH aV) false true)),(some (.cells (cZ (⟨0,([]:List UInt8)⟩:aR)) false false)),(some (.cells (aH (x6++[(⟨o.Key,o.Value⟩:aA)])) false true))])
def mI(x2:Int×Bool)(x6:List aA)(o:aW)(aV:List aA):Option (Int) :=
 cond x2.2 (some (IntKind.i64.wrap (x2.1+1))) (some x2.1)
theorem wh(d:Nat){x2:Int×Bool}{x6:List aA}{o:aW}{aV:List aA}{r:Int}(h:mI x2 x6 o aV=some r):kM (bO (bn bG (d+0)) KK 147 mX) 2 (uV x2 x6 o aV) (um x2 x6 o aV r):=by
 unfold mI at h
 exact iN nB qX h (.br 65 (λ_=>E1 [0,4,5,7] [none,none,none,none] [] [.undef,.undef,.undef,.slice none 2 0 0 true]) λ_=>E1 [0,4,5,7] [none,none,none,none] [] [.undef,.undef,.undef,.slice none 2 0 0 true])
def qJ(o:aW)(aV:List aA):Option (aR×List aA) :=
 (vZ o).bind λ(x1:Bool)=>cond (!x1) (some ((⟨1,([]:List UInt8)⟩:aR),aV)) ((nQ o.Key aV).bind λ(x2:Int×Bool)=>cond (o.Kind==1) (cond (!x2.2) (some ((⟨4,([]:List UInt8)⟩:aR),aV)) ((iO aV x2.1).bind λ(x3:aA)=>some ((⟨0,x3.Value⟩:aR),aV))) (cond (o.Kind==2) ((mH x2 aV o).bind λ(x4:Unit⊕Unit)=>cond (zN x4) (some ((⟨5,([]:List UInt8)⟩:aR),aV)) ((D_ aV 0 x2.1).bind λ(x6:List aA)=>gd (d9 32 x6.length) (gd (d9 32 (x6++[(⟨o.Key,o.Value⟩:aA)]).length) ((mI x2 x6 o aV).bind λ(x9:Int)=>(D_ aV x9 aV.length).bind λ(x10:List aA)=>gd (d9 32 ((x6++[(⟨o.Key,o.Value⟩:aA)])++x10).length) (some ((⟨0,([]:List UInt8)⟩:aR),((x6++[(⟨o.Key,o.Value⟩:aA)])++x10))))))) (cond (o.Kind==3) (cond (!x2.2) (some ((⟨4,([]:List UInt8)⟩:aR),aV)) ((D_ aV 0 x2.1).bind λ(Ez:List aA)=>gd (d9 32 Ez.length) ((D_ aV (IntKind.i64.wrap (x2.1+1)) aV.length).bind λ(zG:List aA)=>gd (d9 32 (Ez++zG).length) (some ((⟨0,([]:List UInt8)⟩:aR),(Ez++zG)))))) (cond (!x2.2) (some ((⟨4,([]:List UInt8)⟩:aR),aV)) ((iO aV x2.1).bind λ(P_:aA)=>cond (!(P_.Value==o.Old)) ((iO aV x2.1).bind λ(Rk:aA)=>some ((⟨6,Rk.Value⟩:aR),aV)) (gd (d9 32 aV.length) ((iO aV x2.1).bind λ(Q6:aA)=>some ((⟨0,([]:List UInt8)⟩:aR),(aV.set x2.1.toNat (⟨Q6.Key,o.Value⟩:aA))))))))))
def fD(o:aW)(aV:List aA)(r:aR×List aA):AV×WH:=((.agg (cZ r.1)),[(some (.cells [(.acc 2 0 2 r.2.length true)] false false)),none,(some (.cells (aH r.2) false true))])
theorem zH(d:Nat){o:aW}{aV:List aA}{r:aR×List aA}(h:qJ o aV=some r):Spec (bn bG (d+2)) 118 [(.ptr (some (0,0))),(.agg (bT o))] [(some (.cells [(.acc 1 0 2 aV.length true)] false false)),(some (.cells (aH aV) false true))] (fD o aV r).1 (fD o aV r).2:=by
 unfold qJ at h
 exact bZ nB Sb h (.bd λx1 q1=>tV (Ey (d+0) q1)<|.br 11 (λ_=>.st none<|Fn Fo [] Tw) λ_=>.bd λx2 q2=>I8 (xR (d+0) q2)<|.br 22 (λ_=>.br 25 (λ_=>.st none<|Fn Fo [] Tw) λ_=>.bd λx3 q3=>Ia aO 32 1 q3<|Ld aO 34 false 1 1 q3 (.str x3.Value) rfl<|.st none<|Fn Fo [] Tw) λ_=>.br 36 (λ_=>.bd λx4 q4=>.ite (λhb5=>Jn [0,3,4,5,6] [none,none,none,none,none] [] [] (I7 (il hb5) (pR (d+1) q4))<|Fn Fo [] Tw) λhb5=>Jn [0,3,4,5,6] [none,none,none,none,none] [] [] (I7 (QI hb5) (pR (d+1) q4))<|.bd λx6 q6=>.v 55 (.acc 1 0 2 x6.length false)<|.ob (Bc aO q6:wP (.slice 2 (.c (.acc 1 0 2 aV.length true)) none (some (.c (.int .i64 x2.1))) none)=some (.acc 1 0 2 x6.length false))<|.gd λq7=>.ap 56 x6.length (aH x6)<|.ob (by(try rw[gI aO q6]);(try rw[eF aO q6]);simp:0+x6.length=x6.length)<|.ob (by(try rw[gI aO q6]);(try rw[eF aO q6]);first | rfl | simp[aH]:aH []++((aH aV).drop (0)).take (x6.length*2)=aH x6)<|.ob q7<|.gd λq8=>.ap 64 (x6++[(⟨o.Key,o.Value⟩:aA)]).length (aH (x6++[(⟨o.Key,o.Value⟩:aA)]))<|.ob (by(try rw[gI aO q6]);(try rw[eF aO q6]);simp:x6.length+1=(x6++[(⟨o.Key,o.Value⟩:aA)]).length)<|.ob (by(try rw[gI aO q6]);(try rw[eF aO q6]);exact(Row.app aO _ _).symm:aH x6++aH ([(⟨o.Key,o.Value⟩:aA)])=aH (x6++[(⟨o.Key,o.Value⟩:aA)]))<|.ob q8<|.bd λx9 q9=>Jn [0,4,5,6,7] [none,none,none,none,none] [] [.undef,.undef,.undef,.undef,.slice none 2 0 0 true] (wh (d+1) q9)<|.bd λx10 P6=>.v 75 (.acc 1 (0+x9.toNat*2) 2 x10.length false)<|.ob (by(try rw[gI aO q6]);(try rw[eF aO q6]);exact Bb aO P6:wP (.slice 2 (.c (.acc 1 0 2 aV.length true)) (some (.c (.int .i64 x9))) none none)=some (.acc 1 (0+x9.toNat*2) 2 x10.length false))<|.gd λTW=>.ap 76 ((x6++[(⟨o.Key,o.Value⟩:aA)])++x10).length (aH ((x6++[(⟨o.Key,o.Value⟩:aA)])++x10))<|.ob (by(try rw[gI aO q6]);(try rw[eF aO q6]);(try rw[j6 aO P6]);exact zY _ _:(x6++[(⟨o.Key,o.Value⟩:aA)]).length+x10.length=((x6++[(⟨o.Key,o.Value⟩:aA)])++x10).length)<|.ob (by(try rw[gI aO q6]);(try rw[eF aO q6]);(try rw[j6 aO P6]);exact(Row.app aO _ _).symm:aH (x6++[(⟨o.Key,o.Value⟩:aA)])++((aH aV).drop (0+x9.toNat*2)).take (x10.length*2)=aH ((x6++[(⟨o.Key,o.Value⟩:aA)])++x10))<|.ob TW<|.st none<|.st none<|.kl [1]<|Fn Fo [] Tw) λ_=>.br 80 (λ_=>.br 83 (λ_=>.st none<|Fn Fo [] Tw) λ_=>.bd λEz MN=>.v 92 (.acc 1 0 2 Ez.length false)<|.ob (Bc aO MN:wP (.slice 2 (.c (.acc 1 0 2 aV.length true)) none (some (.c (.int .i64 x2.1))) none)=some (.acc 1 0 2 Ez.length false))<|.gd λVF=>.ap 93 Ez.length (aH Ez)<|.ob (by(try rw[gI aO MN]);(try rw[eF aO MN]);simp:0+Ez.length=Ez.length)<|.ob (by(try rw[gI aO MN]);(try rw[eF aO MN]);first | rfl | simp[aH]:aH []++((aH aV).drop (0)).take (Ez.length*2)=aH Ez)<|.ob VF<|.bd λzG Si=>.v 100 (.acc 1 (0+(IntKind.i64.wrap (x2.1+1)).toNat*2) 2 zG.length false)<|.ob (by(try rw[gI aO MN]);(try rw[eF aO MN]);exact Bb aO Si:wP (.slice 2 (.c (.acc 1 0 2 aV.length true)) (some (.c (.int .i64 (IntKind.i64.wrap (x2.1+1))))) none none)=some (.acc 1 (0+(IntKind.i64.wrap (x2.1+1)).toNat*2) 2 zG.length false))<|.gd λTR=>.ap 101 (Ez++zG).length (aH (Ez++zG))<|.ob (by(try rw[gI aO MN]);(try rw[eF aO MN]);(try rw[j6 aO Si]);exact zY _ _:Ez.length+zG.length=(Ez++zG).length)<|.ob (by(try rw[gI aO MN]);(try rw[eF aO MN]);(try rw[j6 aO Si]);exact(Row.app aO _ _).symm:aH Ez++((aH aV).drop (0+(IntKind.i64.wrap (x2.1+1)).toNat*2)).take (zG.length*2)=aH (Ez++zG))<|.ob TR<|.st none<|.st none<|.kl [1]<|Fn Fo [] Tw) λ_=>.br 105 (λ_=>.st none<|Fn Fo [] Tw) λ_=>.bd λP_ q16=>Ia aO 115 1 q16<|Ld aO 117 false 1 1 q16 (.str P_.Value) rfl<|.br 109 (λ_=>.bd λRk SA=>Ia aO 126 1 SA<|Ld aO 128 false 1 1 SA (.str Rk.Value) rfl<|.st none<|Fn Fo [] Tw) λ_=>.gd λTT=>U9 aO 135 TT<|.bd λQ6 SB=>Ia aO 140 5 SB<|.st (some (aH (aV.set x2.1.toNat (⟨Q6.Key,o.Value⟩:aA))))<|.ob (Eb (o:=1) aO SB rfl:Fg (aH aV) (0+x2.1.toNat*2+1) [(.str o.Value)]=some (aH (aV.set x2.1.toNat (⟨Q6.Key,o.Value⟩:aA))))<|.st none<|.st none<|.kl [1]<|.vk (.fin (some false) [] (some true)) _ (λr=>@Eq AV (.agg (cZ (⟨0,([]:List UInt8)⟩:aR))) (fD o aV r).1∧@Eq WH [(some (.cells [(.acc 2 0 2 aV.length true)] false false)),none,(some (.cells (aH (aV.set x2.1.toNat (⟨Q6.Key,o.Value⟩:aA))) false true))] (fD o aV r).2) (by show _∧_;(try rw[show AV.list 2 aV.length (aH (aV.set x2.1.toNat (⟨Q6.Key,o.Value⟩:aA))) false=bX (aV.set x2.1.toNat (⟨Q6.Key,o.Value⟩:aA))from by simp only[bX,bV]]);refine⟨?_, ?_⟩<;>first | rfl |(simp only[fD,bV,aG,List.length_replicate,bA,eB,aQ,aJ,Nat.add_zero,Nat.zero_add];done) | simp[fD]))
def jP(l:List aA)(s7:Int×List aA):List AV×WH:=([(bX l),(.ptr (some (0,0))),(.ptr (some (1,0))),(.int .i64 s7.1)],[(some (.cells [(.acc 2 0 2 0 true)] false false)),(some (.cells [(.acc 3 0 2 s7.2.length true)] false false)),(some (.cells (aH []) false true)),(some (.cells (aH s7.2) false true))])
def lQ(l:List aA):(List aA)→Ex×Fast×WH:=λe=>((.exit 0),[(2,(.ptr (some (0,0)))),(3,(.ptr (some (1,0))))],[(some (.cells [(.acc 2 0 2 0 true)] false false)),(some (.cells [(.acc 3 0 2 e.length true)] false false)),(some (.cells (aH []) false true)),(some (.cells (aH e) false true))])
abbrev yR(l:List aA):=pz [0,2,3,4] (jP l) (lQ l)
def kr(l:List aA)(s7:Int×List aA):Option ((Int×List aA)⊕((List aA))) :=
 cond (decide (s7.1<(l.length:Int))) ((iO l s7.1).bind λ(x8:aA)=>(iO l s7.1).bind λ(x9:aA)=>(qJ (⟨2,x8.Key,x9.Value,([]:List UInt8)⟩:aW) s7.2).bind λ(x10:aR×List aA)=>some (.inl ((IntKind.i64.wrap (s7.1+1)),x10.2))) (some (.inr s7.2))
def vE(l:List aA)(s7:Int×List aA):Option ((List aA)):=lX (kr l) KK s7
theorem zI(d:Nat){l:List aA}{s7:Int×List aA}{r:(Int×List aA)⊕((List aA))}(h:kr l s7=some r):kM (bO (bn bG (d+2)) KK 25 Es) 0 (I6 [0,2,3,4] (jP l s7)) (yR l r):=by
 unfold kr at h
 exact iN nB HY h (.br 9 (λ_=>.bd λx8 q8=>Ix aO 14 q8<|.bd λx9 q9=>Ix aO 19 q9<|.bd λx10 P6=>I8 (zH (d+0) P6)<|E1 [0,2,3,4] [none,none,none,none] [] [.slice none 2 0 0 true,.undef,.undef,.undef]) λ_=>E0 [2,3])
theorem zJ(d:Nat){l:List aA}{s7:Int×List aA}{r:(List aA)}(h:vE l s7=some r):kM (nS (bO (bn bG (d+2)) KK 25 Es) [0,2,3,4] KK) 0 (I6 [0,2,3,4] (jP l s7)) (lQ l r) :=
 qw (st:=jP l) (fin:=lQ l) (step:=kr l) (λe=>by(intro h;cases h)) (λs x h=>zI d h) KK s7 r h
def Bz(l:List aA):Option (pG) :=
 (vE l (0,[])).bind λ(UM:(List aA))=>some (⟨UM⟩:pG)
def uo(l:List aA)(r:pG):AV×WH:=((.agg (Hg r)),[])
theorem O_(d:Nat){l:List aA}{r:pG}(h:Bz l=some r):Spec (bn bG (d+3)) 114 [(bX l)] [] (uo l r).1 (uo l r).2:=by
 unfold Bz at h
 exact bZ nB R_ h (.z 2 [.slice none 2 0 0 true]<|.z 5 [.agg [.slice none 2 0 0 true]]<|.z 3 [.slice none 2 0 0 true]<|.st none<|.bd λUM TW=>Lp [none,none,none,none] [Tw,Tw,Tw,Tw] [.slice none 2 0 0 true,.undef,.undef,.undef] (zJ (d+0) TW)<|.st none<|Fn Fo [.agg [.slice none 2 0 0 true]] none)
def zZ(M_:List UInt8)(n:Int):Option (List UInt8) :=
 cond (decide ((M_.length:Int)>n)) ((D_ M_ 0 n).bind λ(x1:List UInt8)=>some x1) (some M_)
def zq(M_:List UInt8)(n:Int)(r:List UInt8):AV×WH:=((.str r),[])
theorem Dl(d:Nat){M_:List UInt8}{n:Int}{r:List UInt8}(h:zZ M_ n=some r):Spec (bn bG (d+1)) 98 [(.str M_),(.int .i64 n)] [] (zq M_ n r).1 (zq M_ n r).2:=by
 unfold zZ at h
 exact bZ nB TQ h (.br 8 (λ_=>.bd λx1 q1=>.v 11 (.str x1)<|.ob (Lj q1:wP (.gN (.c (.str M_)) none (some (.c (.int .i64 n))))=some (.str x1))<|Fn Fo [] none) λ_=>Fn Fo [] none)
def MO(EA:bK):Option (kg) :=
 (dZ EA.Client 4).bind λ(x1:Int)=>(dZ EA.Seq 9).bind λ(x2:Int)=>(Dj EA.Kind EA.Key EA.Value EA.Old).bind λ(x3:aW)=>(dZ EA.G_ 16).bind λ(x4:Int)=>cond (x4==10) ((zZ EA.Text 12).bind λ(x5:List UInt8)=>some (⟨x1,(IntKind.i64.wrap (1+x2)),(⟨x3.Kind,x5,x3.Value,x3.Old⟩:aW)⟩:kg)) (cond (x4==11) ((zZ EA.Text 20).bind λ(x6:List UInt8)=>some (⟨x1,(IntKind.i64.wrap (1+x2)),(⟨x3.Kind,x3.Key,x6,x3.Old⟩:aW)⟩:kg)) (cond (x4==12) ((dZ (IntKind.i64.wrap (Int.tdiv EA.G_ 16)) 8).bind λ(x7:Int)=>some (⟨x1,(IntKind.i64.wrap (1+x2)),(⟨(IntKind.i64.wrap (x7-1)),x3.Key,x3.Value,x3.Old⟩:aW)⟩:kg)) (cond (x4==13) ((dZ (IntKind.i64.wrap (Int.tdiv EA.G_ 16)) 9).bind λ(x8:Int)=>some (⟨(IntKind.i64.wrap (x8-2)),(IntKind.i64.wrap (1+x2)),x3⟩:kg)) (cond (x4==14) ((H6 (IntKind.i64.wrap (Int.tdiv EA.G_ 16))).bind λ(x9:Int)=>some (⟨x1,x9,x3⟩:kg)) (cond (x4==15) (some (⟨0,0,(⟨0,([]:List UInt8),([]:List UInt8),([]:List UInt8)⟩:aW)⟩:kg)) (some (⟨x1,(IntKind.i64.wrap (1+x2)),x3⟩:kg)))))))
def BA(EA:bK)(r:kg):AV×WH:=((.agg (JM r)),[])
theorem Sk(d:Nat){EA:bK}{r:kg}(h:MO EA=some r):Spec (bn bG (d+4)) 61 [(.agg (pF EA))] [] (BA EA r).1 (BA EA r).2:=by
 unfold MO at h
 exact bZ nB TM h (.bd λx1 q1=>tV (eU (d+2) q1)<|.bd λx2 q2=>tV (eU (d+2) q2)<|.bd λx3 q3=>tV (Jd (d+0) q3)<|.st none<|.bd λx4 q4=>tV (eU (d+2) q4)<|.br 24 (λ_=>.bd λx5 q5=>tV (Dl (d+2) q5)<|.st none<|.st none<|Fn Fo [] none) λ_=>.br 31 (λ_=>.bd λx6 q6=>tV (Dl (d+2) q6)<|.st none<|.st none<|Fn Fo [] none) λ_=>.br 38 (λ_=>.bd λx7 q7=>tV (eU (d+2) q7)<|.st none<|.st none<|Fn Fo [] none) λ_=>.br 47 (λ_=>.bd λx8 q8=>tV (eU (d+2) q8)<|.st none<|.st none<|Fn Fo [] none) λ_=>.br 55 (λ_=>.bd λx9 q9=>tV (ML (d+1) q9)<|.st none<|.st none<|Fn Fo [] none) λ_=>.br 62 (λ_=>.st none<|.st none<|Fn Fo [] none) λ_=>.st none<|Fn Fo [] none)
theorem ru(n:Int)(m:Nat)(hm:0<m)(hm2:m<1000000000000):∃k:Nat,dZ n (m:Int)=some (k:Int)∧k<m:=by
 have h1:=Int.emod_nonneg n (by omega:(m:Int)≠0)
 have h2:=Int.emod_lt_of_pos n (by omega:(0:Int)<(m:Int))
 refine⟨(n%(m:Int)).toNat, ?_,by omega⟩
 rw[Int.toNat_of_nonneg h1]
 unfold dZ NU
 rw[if_neg (by omega),aB]
 have e1:=Int.tmod_add_mul_tdiv n m
 by_cases h:0≤n.tmod m
 ·rw[iE (by omega),cond_false]
  congr 1
  have e2:n.tmod m<m:=Int.tmod_lt_of_pos n (by omega)
  have e3:n%m=(n.tmod m)%m:=by
   conv=>lhs;rw[←e1]
   rw[Int.add_mul_emod_self_left]
  rw[e3,Int.emod_eq_of_lt h e2]
 ·have e2:-(m:Int)<n.tmod m:=Int.lt_tmod_of_pos n (by omega)
  rw[iY (by omega),cond_true,lC (by omega) (by omega)]
  congr 1
  have e3:n%m=(n.tmod m+m)%m:=by
   conv=>lhs;rw[←e1]
   rw[Int.add_mul_emod_self_left,Int.add_emod_right]
  rw[e3,Int.emod_eq_of_lt (by omega) (by omega)]
theorem BD(n:Int):∃v,iZ n=some v:=by
 obtain⟨k,hk,h⟩:=ru n 6 (by omega) (by omega)
 unfold iZ
 rw[show(6:Int)=((6:Nat):Int)from rfl,hk,aB,om (by simpa using h),aB]
 exact⟨_,rfl⟩
theorem MP(n:Int)(m:Nat)(h:0<m)(h2:m<1000000000000):∃k,dZ n (m:Int)=some k:=by
 obtain⟨k,hk,_⟩:=ru n m h h2
 exact⟨_,hk⟩
theorem MQ(n:Int):∃v,pI n=some v:=by
 obtain⟨k,hk,h⟩:=ru n 16 (by omega) (by omega)
 unfold pI
 rw[show(16:Int)=((16:Nat):Int)from rfl,hk,aB,om (by simpa using h),aB]
 exact⟨_,rfl⟩
theorem Pb(a b c d:Int):∃o,Dj a b c d=some o:=by
 obtain⟨x1,h1⟩:=MP a 4 (by omega) (by omega)
 obtain⟨x2,h2⟩:=MQ b
 obtain⟨x4,h4⟩:=BD c
 obtain⟨x6,h6⟩:=BD d
 have k4:((4:Nat):Int)=4:=rfl
 rw[k4]at h1
 unfold Dj
 rw[h1,aB,h2,aB]
 unfold xE xD
 rw[h4,h6]
 simp only[aB]
 cases (IntKind.i64.wrap (1+x1)==2)<;>cases q:(IntKind.i64.wrap (1+x1)==4)<;>simp[q]
theorem rz:∀a,Op.bytesLess a a=false
 | []=>rfl
 | x::a=>by simp[Op.bytesLess,rz a]
theorem MR(a:List UInt8):Op.bytesLess a []=false:=by cases a<;>rfl
theorem rA:∀a b c,Op.bytesLess a b=true→Op.bytesLess b c=true→Op.bytesLess a c=true
 | a,[],c=>λh=>by rw[MR]at h;cases h
 | a,y::b,[]=>λ_ h=>by rw[MR]at h;cases h
 | [],y::b,z::c=>λ_ _=>rfl
 | x::a,y::b,z::c=>by
  simp only[Op.bytesLess,Bool.or_eq_true,Bool.and_eq_true,decide_eq_true_eq,beq_iff_eq,UInt8.lt_iff_toNat_lt,←UInt8.toNat_inj]
  rintro(h |⟨h,h'⟩) (g |⟨g,g'⟩)
  ·left;omega
  ·left;omega
  ·left;omega
  ·right;exact⟨by omega,rA a b c h' g'⟩
theorem Gd:∀a b,Op.bytesLess a b=false→a≠b→Op.bytesLess b a=true
 | [],[]=>λ_ h=>absurd rfl h
 | [],y::b=>λh=>by cases h
 | x::a,[]=>λ_ _=>rfl
 | x::a,y::b=>by
  intro h hn
  by_cases e:x=y
  ·subst e
   have:Op.bytesLess a b=false:=by
    simpa[Op.bytesLess]using h
   have:=Gd a b this (λq=>hn (by rw[q]))
   simp[Op.bytesLess,this]
  ·have h1:¬x<y:=by
    intro q
    simp[Op.bytesLess,q]at h
   have:y<x:=by
    rw[UInt8.lt_iff_toNat_lt]at *
    rw[←UInt8.toNat_inj]at e
    omega
   simp[Op.bytesLess,this]
theorem Dm(p:aA)(key:List UInt8):eX p key=some (if Op.bytesLess p.Key key then -1 else if p.Key=key then 0 else 1):=by
 unfold eX iQ cmp_isNaN_string
 simp only[beq_self_eq_true,Bool.not_true,aB,cond_false]
 cases h:Op.bytesLess p.Key key
 ·by_cases e:p.Key=key
  ·rw[if_neg (by simp),if_pos e];simp[e]
  ·rw[if_neg (by simp),if_neg e]
   have:(p.Key==key)=false:=by simpa using e
   simp[this]
 ·simp
def pU(L:List aA):Prop:=(L.map (·.Key)).Pairwise (λa b=>Op.bytesLess a b=true)
def place(L:List aA)(key:List UInt8):Nat:=(L.takeWhile (λp=>Op.bytesLess p.Key key)).length
def rC(L:List aA)(key:List UInt8):Bool:=match L[place L key]? with
 | some p=>p.Key==key
 | none=>false
def MS(L:List aA)(key:List UInt8):aA:=(L[place L key]?).getD ⟨[],[]⟩
theorem xS(L:List aA)(key:List UInt8):place L key≤L.length:=(List.takeWhile_sublist _).length_le
theorem BF(key:List UInt8):∀(L:List aA) (k:Nat),k≤L.length→(∀i (h:i<L.length),i<k→Op.bytesLess L[i].Key key=true)→(∀h:k<L.length,Op.bytesLess L[k].Key key=false)→k=place L key
 | [],k=>λh _ _=>by simp[place]at *;exact h
 | p::L,0=>λh _ g=>by
  have:=g (by simp)
  simp at this
  simp[place,List.takeWhile_cons,this]
 | p::L,k+1=>λh f g=>by
  have h1:=f 0 (by simp) (by omega)
  have h2:=BF key L k (by simpa using h) (λi hi hk=>by have:=f (i+1) (by simpa using hi) (by omega);simpa using this) (λhk=>by have:=g (by simpa using hk);simpa using this)
  simp at h1
  simp[place,List.takeWhile_cons,h1]at *
  exact h2
theorem Gf(key:List UInt8):∀(L:List aA) (i:Nat) (h:i<L.length),i<place L key→Op.bytesLess L[i].Key key=true
 | [],i=>λh=>by simp at h
 | p::L,i=>λh hp=>by
  cases e:Op.bytesLess p.Key key
  ·simp[place,List.takeWhile_cons,e]at hp
  ·cases i with
   | zero=>simpa using e
   | succ i =>
    simp[place,List.takeWhile_cons,e]at hp
    have:=Gf key L i (by simpa using h) (by unfold place;omega)
    simpa using this
theorem BG(key:List UInt8):∀(L:List aA) (h:place L key<L.length),Op.bytesLess L[place L key].Key key=false
 | []=>λh=>by simp at h
 | p::L=>λh=>by
  cases e:Op.bytesLess p.Key key
  ·have:place (p::L) key=0:=by simp[place,List.takeWhile_cons,e]
   simp only[this]
   simpa using e
  ·have q:place (p::L) key=place L key+1:=by simp[place,List.takeWhile_cons,e]
   simp only[q]at h ⊢
   have:=BG key L (by simpa using h)
   simpa using this
theorem yS(L:List aA)(key:List UInt8)(h:place L key<L.length):rC L key=(L[place L key].Key==key):=by
 unfold rC
 rw[aU h]
theorem MU(L:List aA)(key:List UInt8)(h:¬place L key<L.length):rC L key=false:=by
 unfold rC
 rw[List.getElem?_eq_none (by omega)]
theorem oz{L:List aA}{key:List UInt8}(h:rC L key=true):place L key<L.length:=by
 by_cases c:place L key<L.length
 ·exact c
 ·rw[MU L key c]at h;cases h
theorem H9{L:List aA}{key:List UInt8}(h:place L key<L.length):iO L (place L key:Int)=some (MS L key):=by
 unfold MS
 rw[om h,aU h]
 rfl
theorem Pf{L:List aA}{key:List UInt8}(h:rC L key=true):(MS L key).Key=key:=by
 have c:=oz h
 rw[yS L key c]at h
 unfold MS
 rw[aU c]
 simpa using h
theorem uK{L:List aA}(h:pU L){i j:Nat}(hj:j<L.length)(hi:i<j):Op.bytesLess (L[i]'(by omega)).Key L[j].Key=true:=by
 unfold pU at h
 rw[List.pairwise_iff_getElem]at h
 have:=h i j (by simp;omega) (by simpa using hj) hi
 simpa using this
theorem BH(L:List aA)(key:List UInt8)(hs:pU L)(hl:L.length≤1000):bg L key=some ((place L key:Int),rC L key):=by
 have key1:∃e,bU L key (((0:Nat):Int),(L.length:Int))=some e∧e=(place L key:Int):=by
  refine uH (λs=>(s.2-s.1).toNat) (λs=>∃i j:Nat,s=((i:Int),(j:Int))∧i≤j∧j≤L.length∧(∀m (h:m<L.length),m<i→Op.bytesLess L[m].Key key=true)∧(∀m (h:m<L.length),j≤m→Op.bytesLess L[m].Key key=false)) _ ?_ KK _ ⟨0,L.length,rfl,by omega,by omega,λ_ _ h=>by omega,λ_ _ h=>by omega⟩ (by have:=Hl;simp only;omega)
  rintro s ⟨i,j,rfl,h1,h2,h3,h4⟩
  simp only[bD]
  by_cases c:i<j
  ·left
   have hm:IntKind.i64.wrap (JH .u64 (IntKind.u64.wrap (IntKind.i64.wrap ((i:Int)+(j:Int)))) 1)=(((i+j)/2:Nat):Int):=by
    rw[lC (x:=(i:Int)+j) (by omega) (by omega),Lr (by omega) (by omega)]
    have:JH .u64 ((i:Int)+(j:Int)) 1=(((i+j)/2:Nat):Int):=by
     have e:JH .u64 ((i:Int)+(j:Int)) 1=((i:Int)+(j:Int)).fdiv 2:=rfl
     rw[e,Int.fdiv_eq_ediv_of_nonneg _ (by omega)]
     omega
    rw[this,lC (by omega) (by omega)]
   rw[hm]
   have hb:(i+j)/2<L.length:=by omega
   rw[iY (by omega),cond_true,om hb,aB,Dm,aB]
   cases e:Op.bytesLess L[(i+j)/2].Key key
   ·have c0:(if (false=true)then (-1:Int)else if L[(i+j)/2].Key=key then 0 else 1)=(if L[(i+j)/2].Key=key then 0 else 1):=by simp
    rw[c0,iE (by split<;>omega),cond_false]
    refine⟨_,rfl,⟨i,(i+j)/2,rfl,by omega,by omega,h3,λm hm2 VG=>?_⟩,by simp only;omega⟩
    by_cases q:m=(i+j)/2
    ·subst q;exact e
    ·have r:=uK hs hm2 (show(i+j)/2<m by omega)
     cases z:Op.bytesLess L[m].Key key
     ·rfl
     ·rw[rA _ _ _ r z]at e;cases e
   ·rw[if_pos rfl,iY (by omega),cond_true,lC (x:=(((i+j)/2:Nat):Int)+1) (by omega) (by omega),qV]
    refine⟨_,rfl,⟨(i+j)/2+1,j,rfl,by omega,h2,λm hm2 VG=>?_,h4⟩,by simp only;omega⟩
    by_cases q:m=(i+j)/2
    ·subst q;exact e
    ·exact rA _ _ _ (uK hs hb (show m<(i+j)/2 by omega)) e
  ·right
   obtain rfl:i=j:=by omega
   rw[iE (by omega),cond_false]
   refine⟨_,rfl, ?_⟩
   rw[←BF key L i h2 h3 (λh=>h4 i h (by omega))]
 obtain⟨e,e1,rfl⟩:=key1
 unfold bg
 rw[show((0:Int),(L.length:Int))=(((0:Nat):Int),(L.length:Int))from rfl,e1,aB]
 by_cases c:place L key<L.length
 ·rw[iY (by omega),cond_true,om c,aB,Dm,aB,yS L key c,BG key L c]
  by_cases q:L[place L key].Key=key
  ·simp[q]
  ·have:(L[place L key].Key==key)=false:=by simpa using q
   simp[q]
 ·rw[iE (by omega),cond_false,MU L key c]
theorem JY(a b:Int):(a==b)=decide (a=b):=N7 a b
def rZ(o:aW):Bool :=
 decide (1≤o.Kind)&&decide (o.Kind≤4)&&decide (1≤o.Key.length)&&decide (o.Key.length≤8)&&decide (o.Value.length≤16)&&decide (o.Old.length≤16) &&
  (decide (o.Kind=2)||decide (o.Kind=4)||decide (o.Value=[]))&&(decide (o.Kind=4)||decide (o.Old=[]))
theorem Pg(l:List UInt8):(l==([]:List UInt8))=decide (l=[]):=by cases l<;>rfl
theorem zu(o:aW):jD o=some (rZ o):=by
 unfold jD lD lH lG lF rZ
 simp only[Pg,JY]
 by_cases h1:o.Kind<1
 ·rw[iY h1,iE (show ¬o.Kind=2 by omega),iE (show ¬o.Kind=4 by omega),iE (show ¬ 1≤o.Kind by omega)];simp[zN]
 by_cases h2:o.Kind>4
 ·simp[h1,h2,zN,show ¬o.Kind≤4 by omega,show ¬o.Kind=2 by omega,show ¬o.Kind=4 by omega]
 by_cases h3:o.Key=[]
 ·by_cases a:o.Kind=2<;>by_cases b:o.Kind=4<;>simp[h1,h2,h3,zN,a,b]
 have h3':1≤o.Key.length:=by
  cases e:o.Key with
  | nil=>exact absurd e h3
  | cons _ _=>simp
 by_cases h4:o.Key.length≤8
 case neg =>
  have:(o.Key.length:Int)>8:=by omega
  by_cases a:o.Kind=2<;>by_cases b:o.Kind=4<;>simp[h1,h2,h3,h4,zN,a,b,this]
 by_cases h5:o.Value.length≤16
 case neg =>
  have:(o.Value.length:Int)>16:=by omega
  by_cases a:o.Kind=2<;>by_cases b:o.Kind=4<;>simp[h1,h2,h3,h4,h5,zN,a,b,this]
 by_cases h6:o.Old.length≤16
 case neg =>
  have:(o.Old.length:Int)>16:=by omega
  by_cases a:o.Kind=2<;>by_cases b:o.Kind=4<;>simp[h1,h2,h3,h4,h5,h6,zN,a,b,this]
 have e4:¬(o.Key.length:Int)>8:=by omega
 have e5:¬(o.Value.length:Int)>16:=by omega
 have e6:¬(o.Old.length:Int)>16:=by omega
 rw[iE h1,iE h2,iE e4,iE e5,iE e6,iE h3,iY (show 1≤o.Kind by omega),iY (show o.Kind≤4 by omega),iY h3',iY h4,iY h5,iY h6]
 by_cases a:o.Kind=2<;>by_cases b:o.Kind=4<;>by_cases c:o.Value=[]<;>simp[zN,a,b,c]<;>omega
theorem BI{o:aW}(h:rZ o=true):1≤o.Kind∧o.Kind≤4:=by
 unfold rZ at h
 simp only[Bool.and_eq_true,decide_eq_true_eq]at h
 omega
def H_(o:aW)(L:List aA):aR×List aA :=
 if rZ o=false then (⟨1,[]⟩,L)
 else if o.Kind=2 then
  if rC L o.Key=true then (⟨0,[]⟩,L.set (place L o.Key) ⟨o.Key,o.Value⟩)
  else if L.length=8 then (⟨5,[]⟩,L)else (⟨0,[]⟩,jO L (place L o.Key) ⟨o.Key,o.Value⟩)
 else if rC L o.Key=false then (⟨4,[]⟩,L)
 else if o.Kind=1 then (⟨0,(MS L o.Key).Value⟩,L)
 else if o.Kind=4 then (if (MS L o.Key).Value=o.Old then (⟨0,[]⟩,L.set (place L o.Key) ⟨o.Key,o.Value⟩)else (⟨6,(MS L o.Key).Value⟩,L))
 else (⟨0,[]⟩,pE L (place L o.Key) ((place L o.Key:Int)+1))
def z8(L:List aA):Prop:=pU L∧L.length≤8
theorem MV(L:List aA)(k:Nat)(p:aA)(h:k<L.length)(e:L[k].Key=p.Key):(L.set k p).map (·.Key)=L.map (·.Key):=by
 apply List.ext_getElem
 ·simp
 ·intro i h1 h2
  simp only[List.getElem_map,List.getElem_set]
  split
  ·next q=>subst q;exact e.symm
  ·rfl
theorem MW{L:List aA}(h:z8 L){key v:List UInt8}(hd:rC L key=true):z8 (L.set (place L key) ⟨key,v⟩):=by
 have c:=oz hd
 have e:L[place L key].Key=key:=by rw[yS L key c]at hd;simpa using hd
 refine⟨?_,by rw[bV];exact h.2⟩
 unfold pU
 rw[MV L _ _ c e]
 exact h.1
theorem MX{L:List aA}(h:z8 L){key v:List UInt8}(hd:rC L key=false)(hl:L.length≠8):z8 (jO L (place L key) ⟨key,v⟩):=by
 have pl:=xS L key
 refine⟨?_,by simp only[jO,aG,aQ,bA,aJ];have:=h.2;omega⟩
 unfold pU jO
 rw[bF,List.map_append,List.map_cons,List.pairwise_append]
 have hr:=h.1
 unfold pU at hr
 have ht:∀a∈(L.take (place L key)).map (·.Key),Op.bytesLess a key=true:=by
  intro a ha
  rw[List.mem_map]at ha
  obtain⟨p,hp,rfl⟩:=ha
  obtain⟨i,hi,rfl⟩:=List.mem_iff_getElem.1 hp
  simp only[aQ]at hi
  rw[List.getElem_take]
  exact Gf key L i (by omega) (by omega)
 have hdr:∀a∈(L.drop (place L key)).map (·.Key),Op.bytesLess key a=true:=by
  intro a ha
  rw[List.mem_map]at ha
  obtain⟨p,hp,rfl⟩:=ha
  obtain⟨i,hi,rfl⟩:=List.mem_iff_getElem.1 hp
  simp only[aJ]at hi
  rw[List.getElem_drop]
  have c:place L key<L.length:=by omega
  have f:Op.bytesLess key L[place L key].Key=true:=by
   refine Gd _ _ (BG key L c) (λq=>?_)
   rw[yS L key c,q]at hd
   simp at hd
  cases i with
  | zero=>simpa using f
  | succ i=>exact rA _ _ _ f (uK h.1 (by omega) (by omega))
 refine⟨?_, ?_, ?_⟩
 ·exact List.Pairwise.sublist ((List.take_sublist _ _).map _) hr
 ·rw[List.pairwise_cons]
  exact⟨hdr,List.Pairwise.sublist ((List.drop_sublist _ _).map _) hr⟩
 ·intro a ha b hb
  rcases List.mem_cons.1 hb with rfl | hb
  ·exact ht a ha
  ·exact rA _ _ _ (ht a ha) (hdr b hb)
theorem Q7{L:List aA}(h:z8 L)(k:Nat)(hk:k<L.length):z8 (pE L k ((k:Int)+1)):=by
 have e:pE L k ((k:Int)+1)=L.eraseIdx k:=by
  unfold pE
  rw[bF,show((k:Int)+1).toNat=k+1 by omega,List.eraseIdx_eq_take_drop_succ]
 rw[e]
 exact⟨List.Pairwise.sublist ((List.eraseIdx_sublist _ _).map _) h.1,Nat.le_trans (List.eraseIdx_sublist _ _).length_le h.2⟩
theorem Qa{L:List aA}(h:z8 L)(o:aW):z8 (H_ o L).2:=by
 unfold H_
 split
 ·exact h
 split
 ·split
  ·next hd=>exact MW h hd
  ·next hd =>
   split
   ·exact h
   ·next hl=>exact MX h (by simpa using hd) hl
 split
 ·exact h
 next hd =>
 have hd:rC L o.Key=true:=by simpa using hd
 split
 ·exact h
 split
 ·split
  ·exact MW h hd
  ·exact h
 ·exact Q7 h _ (oz hd)
theorem Gg{β:Type}{n:Nat}{x:Option β}(h:n≤100):gd (d9 32 n) x=x:=NZ (by omega) (by omega)
theorem Ph{L:List aA}{key v:List UInt8}(h:z8 L)(hd:rC L key=true):(gd (d9 32 L.length) ((iO L (place L key:Int)).bind λ(x2:aA)=>some (L.set (place L key:Int).toNat (⟨x2.Key,v⟩:aA))))=some (L.set (place L key) ⟨key,v⟩):=by
 rw[Gg (by have:=h.2;omega),H9 (oz hd),aB,Pf hd,bF]
theorem JZ(o:aW)(L:List aA)(h:z8 L):gD o L=some (H_ o L):=by
 have hl:=h.2
 have pl:=xS L o.Key
 unfold gD iR H_
 rw[zu,aB,BH L o.Key h.1 (by omega)]
 cases hr:rZ o
 ·simp
 have hk:=BI hr
 simp only[Bool.not_true,cond_false,aB,Bool.true_eq_false,if_false,JY]
 by_cases k2:o.Kind=2
 ·rw[iY k2,cond_true,if_pos k2]
  unfold jf fB
  cases hd:rC L o.Key
  ·rw[cond_false,if_neg (by simp),JY]
   by_cases l8:L.length=8
   ·rw[iY (by omega),if_pos l8];rfl
   ·rw[iE (by omega),if_neg l8,cond_false,Gg (by omega),uI (by simp[BX,d9];omega)];rfl
  ·rw[cond_true,Ph h hd,if_pos rfl];rfl
 rw[iE k2,cond_false,if_neg k2]
 cases hd:rC L o.Key
 ·simp
 have hp:=H9 (oz hd)
 simp only[Bool.not_true,cond_false,Bool.true_eq_false,if_false]
 by_cases k1:o.Kind=1
 ·rw[iY k1,cond_true,if_pos k1,hp];rfl
 rw[iE k1,cond_false,if_neg k1]
 by_cases k4:o.Kind=4
 ·rw[iY k4,cond_true,if_pos k4]
  unfold gX fB
  rw[Ph h hd,hp,aB]
  by_cases q:(MS L o.Key).Value=o.Old
  ·rw[if_pos q];simp[q]
  ·have:((MS L o.Key).Value==o.Old)=false:=by simpa using q
   rw[if_neg q,this];rfl
 ·have c:=oz hd
  rw[iE k4,cond_false,if_neg k4,Gg (by omega),lC (by omega) (by omega),uI (by simp[G8];omega)]
def Gh(L:List aA)(l:List aA):List aA:=l.foldl (λL x=>(H_ ⟨2,x.Key,x.Value,[]⟩ L).2) L
theorem Q8(l:List aA):∀L,z8 L→z8 (Gh L l):=by
 induction l with
 | nil=>exact λL h=>h
 | cons x l ih=>exact λL h=>ih _ (Qa h _)
theorem ok0:z8 []:=⟨List.Pairwise.nil,by simp⟩
theorem Gi(l:List aA)(h:l.length<1000000000):qZ l=some ⟨Gh [] l⟩:=by
 unfold qZ
 have key:t_ l (0,[])=some (Gh [] l):=by
  refine FQ (λi=>((i:Int),Gh [] (l.take i))) l.length _ (λi hi=>?_) ?_ (by omega)
  ·unfold jc
   simp only
   rw[iY (by omega),cond_true,om hi,aB,JZ _ _ (Q8 _ _ ok0),aB,lC (by omega) (by omega),qV,ku hi]
   unfold Gh
   rw[List.foldl_append]
   rfl
  ·unfold jc
   simp only
   rw[iE (by omega),cond_false,List.take_length]
 rw[key]
 rfl
theorem BJ{K V:Type} [DecidableEq K](k k':K)(v:V):∀l:List (K×V),vR (sN l k v) k'=if k'=k then some v else vR l k'
 | []=>by simp[sN,vR]
 | p::r=>by
  by_cases h:k=p.1
  ·subst h
   simp only[sN,if_true,vR]
   by_cases h':k'=p.1<;>simp[h']
  ·simp only[sN,if_neg h,vR,BJ k k' v r]
   by_cases h':k'=p.1
   ·have:k'≠k:=λe=>h (e.symm.trans h')
    simp[h',this,Ne.symm h]
   ·simp[h']
theorem MZ{L:List aA}(h:z8 L){i:Nat}(hi:i<L.length):place L L[i].Key=i:=by
 symm
 refine BF _ L i (by omega) (λj hj hji=>uK h.1 hi hji) (λ_=>rz _)
theorem Pj{L:List aA}(h:z8 L){k:List UInt8}:rC L k=true↔∃p∈L,p.Key=k:=by
 constructor
 ·intro hd
  have c:=oz hd
  rw[yS L k c]at hd
  exact⟨_,List.getElem_mem c,by simpa using hd⟩
 ·rintro⟨p,hp,rfl⟩
  obtain⟨i,hi,rfl⟩:=List.mem_iff_getElem.1 hp
  have e:=MZ h hi
  rw[yS L _ (by rw[e];exact hi)]
  simp[e]
theorem Gj{L:List aA}{k:Nat}{p:aA}(x:aA):x∈jO L (k:Int) p↔x=p∨x∈L:=by
 unfold jO
 rw[bF,List.mem_append,List.mem_cons]
 constructor
 ·rintro(q | rfl | q)
  ·exact .inr (List.mem_of_mem_take q)
  ·exact .inl rfl
  ·exact .inr (List.mem_of_mem_drop q)
 ·rintro(rfl | q)
  ·exact .inr (.inl rfl)
  ·rw[←List.take_append_drop k L,List.mem_append]at q
   rcases q with q | q
   ·exact .inl q
   ·exact .inr (.inr q)
theorem TY:∀k:Fin 16,dZ (k.val:Int) 16=some (k.val:Int):=by decide +kernel
theorem VH:∀k:Fin 6,dZ (k.val:Int) 6=some (k.val:Int):=by decide +kernel
theorem J2(o:aW)(t:aT)(h:z8 t.l):iG o t=some ((H_ o t.l).1,⟨(H_ o t.l).2⟩):=by
 obtain⟨L⟩:=t
 simp only at h
 have hl:=h.2
 have pl:=xS L o.Key
 unfold iG iT H_
 simp only
 rw[zu,aB,BH L o.Key h.1 (by omega)]
 cases hr:rZ o
 ·simp
 have hk:=BI hr
 simp only[Bool.not_true,cond_false,aB,Bool.true_eq_false,if_false,JY]
 by_cases k2:o.Kind=2
 ·rw[iY k2,cond_true,if_pos k2]
  unfold ji fC
  simp only
  cases hd:rC L o.Key
  ·rw[cond_false,if_neg (by simp),JY]
   by_cases l8:L.length=8
   ·rw[iY (by omega),if_pos l8];rfl
   ·rw[iE (by omega),if_neg l8,cond_false,Gg (by omega),uI (by simp[BX,d9];omega)];rfl
  ·rw[cond_true,Ph h hd,if_pos rfl];rfl
 rw[iE k2,cond_false,if_neg k2]
 cases hd:rC L o.Key
 ·simp
 have hp:=H9 (oz hd)
 simp only[Bool.not_true,cond_false,Bool.true_eq_false,if_false]
 by_cases k1:o.Kind=1
 ·rw[iY k1,cond_true,if_pos k1,hp];rfl
 rw[iE k1,cond_false,if_neg k1]
 by_cases k4:o.Kind=4
 ·rw[iY k4,cond_true,if_pos k4]
  unfold jk fC
  simp only
  rw[Ph h hd,hp,aB]
  by_cases q:(MS L o.Key).Value=o.Old
  ·rw[if_pos q];simp[q]
  ·have:((MS L o.Key).Value==o.Old)=false:=by simpa using q
   rw[if_neg q,this];rfl
 ·have c:=oz hd
  rw[iE k4,cond_false,if_neg k4,Gg (by omega),lC (by omega) (by omega),uI (by simp[G8];omega)]
theorem wm(a:List aA)(h:a.length<1000000):eY a a=some true:=by
 unfold eY
 rw[Lv rfl,cond_false]
 have key:jT a a 0=some (.inr ()):=by
  refine FQ (λi=>(i:Int)) a.length _ (λi hi=>?_) ?_ (by omega)
  ·unfold dS
   rw[iY (by omega),cond_true,om hi,aB,aB]
   simp only[beq_self_eq_true,Bool.and_true,Bool.not_true]
   rw[cond_false]
   rw[lC (by omega) (by omega),qV]
  ·unfold dS
   rw[iE (by omega),cond_false]
 rw[key]
 rfl
theorem Q9:jg=some true:=by decide +kernel
theorem M4:∀ {L M:List aA},z8 L→z8 M→(∀x,x∈L↔x∈M)→L=M
 | [],[],_,_,_=>rfl
 | [],b::M,_,_,h=>by have:=(h b).2 (by simp);cases this
 | a::L,[],_,_,h=>by have:=(h a).1 (by simp);cases this
 | a::L,b::M,h1,h2,h=>by
  have r1:∀x∈L,Op.bytesLess a.Key x.Key=true:=λx hx=>by
   have:=h1.1
   unfold pU at this
   rw[List.map_cons,List.pairwise_cons]at this
   exact this.1 _ (List.mem_map_of_mem hx)
  have r2:∀x∈M,Op.bytesLess b.Key x.Key=true:=λx hx=>by
   have:=h2.1
   unfold pU at this
   rw[List.map_cons,List.pairwise_cons]at this
   exact this.1 _ (List.mem_map_of_mem hx)
  have e:a=b:=by
   rcases List.mem_cons.1 ((h a).1 (by simp))with q | q
   ·exact q
   ·rcases List.mem_cons.1 ((h b).2 (by simp))with q' | q'
    ·exact q'.symm
    ·have:=rA _ _ _ (r1 b q') (r2 a q)
     rw[rz]at this
     cases this
  subst e
  have t1:z8 L:=⟨by have:=h1.1;unfold pU at this ⊢;rw[List.map_cons,List.pairwise_cons]at this;exact this.2,by have:=h1.2;simp only[bA]at this;omega⟩
  have t2:z8 M:=⟨by have:=h2.1;unfold pU at this ⊢;rw[List.map_cons,List.pairwise_cons]at this;exact this.2,by have:=h2.2;simp only[bA]at this;omega⟩
  rw[M4 t1 t2 λx=>?_]
  have hx:=h x
  rw[List.mem_cons,List.mem_cons]at hx
  constructor
  ·intro q
   rcases hx.1 (.inr q)with rfl | q'
   ·have:=r1 x q
    rw[rz]at this
    cases this
   ·exact q'
  ·intro q
   rcases hx.2 (.inr q)with rfl | q'
   ·have:=r2 x q
    rw[rz]at this
    cases this
   ·exact q'
def Ib(p:aA):Prop:=rZ ⟨2,p.Key,p.Value,[]⟩=true
theorem Ic:∀(l L:List aA),z8 L→(∀p∈l,Ib p)→(l.map (·.Key)).Nodup→(∀p∈l,∀q∈L,q.Key≠p.Key)→L.length+l.length≤8 →
  z8 (Gh L l)∧(Gh L l).length=L.length+l.length∧∀x,x∈Gh L l↔x∈L∨x∈l
 | [],L,h,_,_,_,_=>⟨h,rfl,λx=>by simp[Gh]⟩
 | p::l,L,h,hr,hn,hd,hl=>by
  rw[List.map_cons,List.nodup_cons]at hn
  simp only[bA]at hl
  have hh:rC L p.Key=false:=by
   cases e:rC L p.Key with
   | false=>rfl
   | true =>
    obtain⟨q,hq,e⟩:=(Pj h).1 e
    exact absurd e (hd p (by simp) q hq)
  have e:(H_ ⟨2,p.Key,p.Value,[]⟩ L).2=jO L (place L p.Key) ⟨p.Key,p.Value⟩:=by
   unfold H_
   rw[if_neg (by rw[hr p (by simp)];simp),if_pos rfl,if_neg (by rw[hh];simp),if_neg (by omega)]
  have pl:=xS L p.Key
  have hlen:(jO L (place L p.Key) ⟨p.Key,p.Value⟩).length=L.length+1:=by
   simp only[jO,aG,aQ,bA,aJ,bF]
   omega
  have i:=Ic l (jO L (place L p.Key) ⟨p.Key,p.Value⟩) (MX h hh (by omega)) (λq hq=>hr q (by simp[hq])) hn.2 (λq hq x hx=>by
   rcases (Gj x).1 hx with rfl | hx
   ·exact λe=>hn.1 (by rw[e];exact List.mem_map_of_mem hq)
   ·exact hd q (by simp[hq]) x hx) (by omega)
  have eo:Gh L (p::l)=Gh (jO L (place L p.Key) ⟨p.Key,p.Value⟩) l:=by
   unfold Gh
   rw[List.foldl_cons,e]
  rw[eo]
  refine⟨i.1,by rw[i.2.1,hlen,bA];omega,λx=>?_⟩
  rw[i.2.2,Gj,List.mem_cons]
  constructor
  ·rintro((rfl | q) | q)
   ·exact .inr (.inl rfl)
   ·exact .inl q
   ·exact .inr (.inr q)
  ·rintro(q | rfl | q)
   ·exact .inl (.inr q)
   ·exact .inl (.inl rfl)
   ·exact .inr q
theorem Gl(o:aW)(L:List aA)(h:o.Kind=1∨(H_ o L).1.Why≠0):(H_ o L).2=L:=by
 unfold H_ at h ⊢
 split
 ·rfl
 rename_i h1
 rw[if_neg h1]at h
 split
 ·rename_i h2
  rw[if_pos h2]at h
  split
  ·rename_i h3
   rw[if_pos h3]at h
   simp only at h
   omega
  ·rename_i h3
   rw[if_neg h3]at h
   split
   ·rfl
   ·rename_i h4
    rw[if_neg h4]at h
    simp only at h
    omega
 rename_i h2
 rw[if_neg h2]at h
 split
 ·rfl
 rename_i h3
 rw[if_neg h3]at h
 split
 ·rfl
 rename_i h4
 rw[if_neg h4]at h
 split
 ·rename_i h5
  rw[if_pos h5]at h
  split
  ·rename_i h6
   rw[if_pos h6]at h
   simp only at h
   omega
  ·rfl
 ·rename_i h5
  rw[if_neg h5]at h
  simp only at h
  omega
theorem Ie:∀k:Fin 16,∀v:Fin 6,((pI (k.val:Int)).bind λa=>(iZ (v.val:Int)).map λb=>rZ ⟨2,a,b,[]⟩)=some true:=by decide +kernel
theorem M5(n m:Int):∃a b,pI n=some a∧iZ m=some b∧Ib ⟨a,b⟩:=by
 obtain⟨k,hk,hk2⟩:=ru n 16 (by omega) (by omega)
 obtain⟨v,hv,hv2⟩:=ru m 6 (by omega) (by omega)
 have hk:dZ n 16=some (k:Int):=hk
 have hv:dZ m 6=some (v:Int):=hv
 have e1:pI n=pI (k:Int):=by
  unfold pI
  rw[hk,TY ⟨k,hk2⟩]
 have e2:iZ m=iZ (v:Int):=by
  unfold iZ
  rw[hv,VH ⟨v,hv2⟩]
 have h:=Ie ⟨k,hk2⟩ ⟨v,hv2⟩
 simp only at h
 rw[e1,e2]
 obtain⟨a,ha,h⟩:=aC.1 h
 obtain⟨b,hb,h⟩:=av.1 h
 exact⟨a,b,ha,hb,h⟩
structure Ord(p:List aA)(had:List (List UInt8×Bool)):Prop where
 right:∀x∈p,Ib x
 nd:(p.map (·.Key)).Nodup
 len:p.length≤8
 had:∀x∈p,vR had x.Key=some true
theorem oF(x0:List Int)(x1:Int)(x2:List bK)(o0:(Ti M9) x0)(o1:M9 x1)(o2:(Ti zm) x2)(hb:(Rj bk1) x0+bk1 x1+(Rj mV) x2≤1048576):f_ x0 x1 x2=some true:=by
 have hl0:x0.length≤1048576:=by have:=I9 (bk:=bk1 (α:=Int)) (λx=>by unfold bk1;omega) x0;omega
 have hl2:x2.length≤1048576:=by have:=I9 (bk:=mV) (λx=>by unfold mV bk1;omega) x2;omega
 have l1:∃p,gK x0 x1 x2 (0,[],[])=some p∧∃had,Ord p had:=by
  refine uH (λ(s:Int×List aA×List (List UInt8×Bool))=>x0.length-s.1.toNat) (λs=>∃(i:Nat) (p:List aA) (had:List (List UInt8×Bool)),s=((i:Int),p,had)∧i≤x0.length∧Ord p had) (λ(p:List aA)=>∃had,Ord p had) ?_ KK _ ⟨0,[],[],rfl,by omega,⟨by simp,by simp,by simp,by simp⟩⟩ (by have:=Hl;simp only;omega)
  rintro s ⟨i,p,had,rfl,g1,g2⟩
  simp only[dK,eP]
  by_cases c:i<x0.length
  case neg =>
   right
   rw[iE (by omega),cond_false]
   exact⟨_,rfl,had,g2⟩
  left
  obtain⟨a,b,ha,hb',hr⟩:=M5 x0[i] (IntKind.i64.wrap (Int.tdiv x0[i] 16))
  rw[iY (by omega),cond_true,om c,aB,ha,aB,aB,lC (x:=(i:Int)+1) (by omega) (by omega),qV]
  have keep:Ord p (sN had a true):=⟨g2.right,g2.nd,g2.len,λx hx=>by
   rw[BJ,g2.had x hx]
   split<;>rfl⟩
  cases q:(vR had a).getD (false:Bool)
  ·simp only[Bool.not_false,cond_true,aB]
   by_cases l8:p.length<8
   ·rw[iY (by omega),cond_true,hb',aB,uI (by unfold d9;simp;omega)]
    refine⟨_,rfl,⟨i+1,_,_,rfl,by omega,⟨λx hx=>?_, ?_,by simp;omega,λx hx=>?_⟩⟩,by simp only;omega⟩
    ·rcases List.mem_append.1 hx with hx | hx
     ·exact g2.right x hx
     ·rw[List.mem_singleton.1 hx];exact hr
    ·rw[List.map_append,List.nodup_append]
     refine⟨g2.nd,by simp,λu hu w hw=>?_⟩
     obtain⟨x,hx,rfl⟩:=List.mem_map.1 hu
     simp only[List.map_cons,List.map_nil,List.mem_singleton]at hw
     intro e
     have:=g2.had x hx
     rw[e,hw]at this
     rw[this]at q
     cases q
    ·rw[BJ]
     rcases List.mem_append.1 hx with hx | hx
     ·rw[g2.had x hx]
      split<;>rfl
     ·rw[List.mem_singleton.1 hx,if_pos rfl]
   ·rw[iE (by omega),cond_false]
    exact⟨_,rfl,⟨i+1,_,_,rfl,by omega,keep⟩,by simp only;omega⟩
  ·simp only[Bool.not_true,cond_false,aB]
   exact⟨_,rfl,⟨i+1,_,_,rfl,by omega,keep⟩,by simp only;omega⟩
 obtain⟨p,p1,had,P⟩:=l1
 have p8:=P.len
 obtain⟨k,k1,k2⟩:=ru x1 (p.length+1) (by omega) (by omega)
 unfold f_
 rw[p1,aB,lC (by omega) (by omega),show(p.length:Int)+1=((p.length+1:Nat):Int)by omega,k1,aB,Gi p (by omega),aB,Lu p k (by omega),aB,Gg (by rw[aJ];omega),QJ p k (by omega),aB,Gg (by rw[aG,aJ,aQ];omega),Gi _ (by rw[aG,aJ,aQ];omega),aB]
 have a1:=Ic p [] ok0 P.right P.nd (by simp) (by simp;exact p8)
 have hperm:∀x,x∈p.drop k++p.take k↔x∈p:=λx=>by
  conv=>rhs;rw[←List.take_append_drop k p]
  rw[List.mem_append,List.mem_append]
  exact Or.comm
 have a2:=Ic (p.drop k++p.take k) [] ok0 (λx hx=>P.right x ((hperm x).1 hx)) (by
  have:=P.nd
  rw[←List.take_append_drop k p,List.map_append]at this
  rw[List.map_append]
  rw[List.nodup_append]at this ⊢
  exact⟨this.2.1,this.1,λu hu w hw e=>this.2.2 w hw u hu e.symm⟩) (by simp) (by rw[aG,aJ,aQ];simp;omega)
 have ee:Gh [] (p.drop k++p.take k)=Gh [] p:=M4 a2.1 a1.1 λx=>by
  rw[a2.2.2,a1.2.2,hperm]
 rw[ee]
 have pp:∀(L:List aA),z8 L→dA ⟨L⟩=some L:=λL h=>by
  unfold dA
  rw[Gg (by have:=h.2;simp only;omega)]
 have j2:dP ⟨Gh [] p⟩ ⟨Gh [] p⟩ p x2=some (.inr ()):=by
  have h8:=a1.1.2
  unfold dP
  rw[Q9,pp _ a1.1]
  simp only[aB,Bool.not_true,cond_false]
  rw[wm _ (by omega)]
  simp only[aB,Bool.not_true,cond_false,jh]
  rw[Lv (by rw[a1.2.1];simp),cond_false]
 rw[j2,aB]
 simp only[zN,cond_false]
 have l3:∃e,gL x2 (0,⟨Gh [] p⟩)=some e∧e=.inr ():=by
  refine uH (λ(s:Int×aT)=>x2.length-s.1.toNat) (λs=>∃(i:Nat) (L:List aA),s=((i:Int),⟨L⟩)∧i≤x2.length∧z8 L) (λ(e:Unit⊕Unit)=>e=.inr ()) ?_ KK _ ⟨0,_,rfl,by omega,a1.1⟩ (by have:=Hl;simp only;omega)
  rintro s ⟨i,L,rfl,g1,g2⟩
  simp only[dL]
  by_cases c:i<x2.length
  case neg =>
   right
   rw[iE (by omega),cond_false]
   exact⟨_,rfl,rfl⟩
  left
  obtain⟨o,ho⟩:=Pb x2[i].Kind x2[i].Key x2[i].Value x2[i].Old
  have g3:=Qa g2 o
  have h8:=g2.2
  rw[iY (by omega),cond_true,om c,aB,pp L g2,aB,ho,aB,J2 o ⟨L⟩ g2,aB,lC (x:=(i:Int)+1) (by omega) (by omega),qV]
  simp only
  rw[pp _ g3]
  simp only[aB]
  refine⟨(((i+1:Nat):Int),⟨(H_ o L).2⟩), ?_,⟨i+1,_,rfl,by omega,g3⟩,by simp only;omega⟩
  simp only[JY]
  by_cases e1:o.Kind=1
  ·rw[iY e1,cond_true,Gl o L (.inl e1),wm L (by omega)]
   rfl
  ·rw[iE e1,cond_false]
   by_cases e2:(H_ o L).1.Why=0
   ·rw[Lv e2]
    rfl
   ·rw[RY e2,cond_true,Gl o L (.inr e2),wm L (by omega)]
    rfl
 obtain⟨e,e1,rfl⟩:=l3
 rw[e1]
 rfl
end Go.Proofs.Ytkedeiklmpkgkaa
