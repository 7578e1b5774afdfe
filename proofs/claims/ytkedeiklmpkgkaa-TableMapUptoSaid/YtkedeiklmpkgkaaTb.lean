import Derived.Test.YtkedeiklmpkgkaaJ5
import Derived.Test.YtkedeiklmpkgkaaProg
import Derived.Test.YtkedeiklmpkgkaaJ6
import Derived.Test.YtkedeiklmpkgkaaL1
set_option linter.all false
set_option maxRecDepth 100000
namespace Go.Proofs.Ytkedeiklmpkgkaa
noncomputable def Nq:bX:={ nargs:=1,ntmps:=153,code:=codeOf (bH Try.prog 9 [[3,4,19,20,21],[4,12,107,108,109]]),results:=[(.tmp 2)] }
theorem P7:bH Try.prog 9 [[3,4,19,20,21],[4,12,107,108,109]]=some Nq:=by kernel_rfl
theorem P8:Nq.code.bN=true:=by kernel_rfl
noncomputable def KH:cZ:=(cL (cK (cB (cA (cB (cB (cB Nq.code)))))))
theorem KI:KH.bN=true:=by kernel_rfl
noncomputable def lC:cZ:=(cA (cB (cB (cB (cB (cB (cK (cA (cB (cB (cL (cK (cB (cA (cB (cB (cB Nq.code)))))))))))))))))
theorem qc:lC.bN=true:=by kernel_rfl
noncomputable def jZ:cZ:=(cA (cK (cA (cB (cB (cB (cB (cB (cK (cA (cB (cB (cL (cK (cB (cA (cB (cB (cB Nq.code)))))))))))))))))))
theorem oh:jZ.bN=true:=by kernel_rfl
noncomputable def KJ:cZ:=(cL (cK (cB (cA (cB (cB (cB (cB (cB Nq.code)))))))))
theorem KL:KJ.bN=true:=by kernel_rfl
noncomputable def KM:bX:={ nargs:=2,ntmps:=14,code:=codeOf (bH Try.prog 23 []),results:=[(.tmp 4)] }
theorem Nr:bH Try.prog 23 []=some KM:=by kernel_rfl
theorem Ns:KM.code.bN=true:=by kernel_rfl
noncomputable def Gs:bX:={ nargs:=4,ntmps:=34,code:=codeOf (bH Try.prog 45 []),results:=[(.cell 8 true 4)] }
theorem Nt:bH Try.prog 45 []=some Gs:=by kernel_rfl
theorem Nu:Gs.code.bN=true:=by kernel_rfl
noncomputable def ER:cZ:=(cA (cB (cB Gs.code)))
theorem ES:ER.bN=true:=by kernel_rfl
noncomputable def Cg:cZ:=(cA (cA (cB (cB Gs.code))))
theorem Dk:Cg.bN=true:=by kernel_rfl
noncomputable def KN:bX:={ nargs:=2,ntmps:=65,code:=codeOf (bH Try.prog 46 []),results:=[(.cell 4 true 2)] }
theorem Nv:bH Try.prog 46 []=some KN:=by kernel_rfl
theorem Nw:KN.code.bN=true:=by kernel_rfl
noncomputable def KO:bX:={ nargs:=1,ntmps:=8,code:=codeOf (bH Try.prog 47 []),results:=[(.tmp 2)] }
theorem Ny:bH Try.prog 47 []=some KO:=by kernel_rfl
theorem Nz:KO.code.bN=true:=by kernel_rfl
noncomputable def KP:bX:={ nargs:=1,ntmps:=9,code:=codeOf (bH Try.prog 48 []),results:=[(.tmp 2)] }
theorem NA:bH Try.prog 48 []=some KP:=by kernel_rfl
theorem NC:KP.code.bN=true:=by kernel_rfl
noncomputable def KQ:bX:={ nargs:=0,ntmps:=21,code:=codeOf (bH Try.prog 49 []),results:=[(.tmp 0)] }
theorem ND:bH Try.prog 49 []=some KQ:=by kernel_rfl
theorem NG:KQ.code.bN=true:=by kernel_rfl
noncomputable def KR:bX:={ nargs:=1,ntmps:=7,code:=codeOf (bH Try.prog 50 []),results:=[(.tmp 2)] }
theorem NH:bH Try.prog 50 []=some KR:=by kernel_rfl
theorem NI:KR.code.bN=true:=by kernel_rfl
noncomputable def KS:bX:={ nargs:=1,ntmps:=7,code:=codeOf (bH Try.prog 51 []),results:=[(.tmp 2)] }
theorem NJ:bH Try.prog 51 []=some KS:=by kernel_rfl
theorem NK:KS.code.bN=true:=by kernel_rfl
noncomputable def I6:bX:={ nargs:=1,ntmps:=20,code:=codeOf (bH Try.prog 52 [[2,3,6,7,8]]),results:=[(.cell 2 true 1)] }
theorem NM:bH Try.prog 52 [[2,3,6,7,8]]=some I6:=by kernel_rfl
theorem NP:I6.code.bN=true:=by kernel_rfl
noncomputable def Gt:cZ:=(cL (cK (cB (cA (cB (cB I6.code))))))
theorem I7:Gt.bN=true:=by kernel_rfl
noncomputable def KT:bX:={ nargs:=1,ntmps:=66,code:=codeOf (bH Try.prog 61 []),results:=[(.cell 2 true 6)] }
theorem NQ:bH Try.prog 61 []=some KT:=by kernel_rfl
theorem NS:KT.code.bN=true:=by kernel_rfl
noncomputable def I8:bX:={ nargs:=1,ntmps:=35,code:=codeOf (bH Try.prog 63 []),results:=[(.tmp 2)] }
theorem NT:bH Try.prog 63 []=some I8:=by kernel_rfl
theorem NU:I8.code.bN=true:=by kernel_rfl
noncomputable def Ag:cZ:=(cA (cK (cB (cA (cB I8.code)))))
theorem A9:Ag.bN=true:=by kernel_rfl
noncomputable def Dl:bX:={ nargs:=1,ntmps:=53,code:=codeOf (bH Try.prog 81 []),results:=[(.tmp 2)] }
theorem NV:bH Try.prog 81 []=some Dl:=by kernel_rfl
theorem NW:Dl.code.bN=true:=by kernel_rfl
noncomputable def H_:cZ:=(cA (cB Dl.code))
theorem Gu:H_.bN=true:=by kernel_rfl
noncomputable def ET:cZ:=(cA (cB (cB Dl.code)))
theorem EU:ET.bN=true:=by kernel_rfl
noncomputable def Ah:cZ:=(cA (cK (cA (cB (cB Dl.code)))))
theorem A_:Ah.bN=true:=by kernel_rfl
noncomputable def yF:cZ:=(cA (cA (cK (cA (cB (cB Dl.code))))))
theorem Ai:yF.bN=true:=by kernel_rfl
noncomputable def KU:bX:={ nargs:=2,ntmps:=14,code:=codeOf (bH Try.prog 82 []),results:=[(.tmp 4),(.tmp 5)] }
theorem NY:bH Try.prog 82 []=some KU:=by kernel_rfl
theorem NZ:KU.code.bN=true:=by kernel_rfl
noncomputable def KV:bX:={ nargs:=4,ntmps:=41,code:=codeOf (bH Try.prog 83 []),results:=[(.cell 8 true 2)] }
theorem N7:bH Try.prog 83 []=some KV:=by kernel_rfl
theorem N8:KV.code.bN=true:=by kernel_rfl
noncomputable def KW:bX:={ nargs:=3,ntmps:=28,code:=codeOf (bH Try.prog 84 []),results:=[(.cell 6 true 2)] }
theorem N9:bH Try.prog 84 []=some KW:=by kernel_rfl
theorem N_:KW.code.bN=true:=by kernel_rfl
noncomputable def KX:bX:={ nargs:=3,ntmps:=33,code:=codeOf (bH Try.prog 85 []),results:=[(.tmp 6)] }
theorem Oa:bH Try.prog 85 []=some KX:=by kernel_rfl
theorem Ob:KX.code.bN=true:=by kernel_rfl
noncomputable def KY:bX:={ nargs:=1,ntmps:=8,code:=codeOf (bH Try.prog 86 []),results:=[(.tmp 2)] }
theorem Oc:bH Try.prog 86 []=some KY:=by kernel_rfl
theorem Od:KY.code.bN=true:=by kernel_rfl
noncomputable def KZ:bX:={ nargs:=1,ntmps:=9,code:=codeOf (bH Try.prog 87 []),results:=[(.tmp 2)] }
theorem Oe:bH Try.prog 87 []=some KZ:=by kernel_rfl
theorem Og:KZ.code.bN=true:=by kernel_rfl
noncomputable def K3:bX:={ nargs:=2,ntmps:=13,code:=codeOf (bH Try.prog 98 []),results:=[(.tmp 4)] }
theorem Oh:bH Try.prog 98 []=some K3:=by kernel_rfl
theorem Oi:K3.code.bN=true:=by kernel_rfl
noncomputable def Ch:bX:={ nargs:=3,ntmps:=49,code:=codeOf (bH Try.prog 109 [[0,1,2,8,9,10]]),results:=[(.tmp 6),(.tmp 7)] }
theorem K4:bH Try.prog 109 [[0,1,2,8,9,10]]=some Ch:=by kernel_rfl
theorem K5:Ch.code.bN=true:=by kernel_rfl
noncomputable def Dm:cZ:=(cL (cK (cA (cB (cB (cB Ch.code))))))
theorem Gv:Dm.bN=true:=by kernel_rfl
noncomputable def EW:bX:={ nargs:=2,ntmps:=9,code:=codeOf (bH Try.prog 110 []),results:=[(.tmp 4)] }
theorem K6:bH Try.prog 110 []=some EW:=by kernel_rfl
theorem K7:EW.code.bN=true:=by kernel_rfl
noncomputable def EX:bX:={ nargs:=2,ntmps:=20,code:=codeOf (bH Try.prog 111 []),results:=[(.tmp 4)] }
theorem K8:bH Try.prog 111 []=some EX:=by kernel_rfl
theorem K9:EX.code.bN=true:=by kernel_rfl
noncomputable def EY:bX:={ nargs:=3,ntmps:=22,code:=codeOf (bH Try.prog 112 []),results:=[] }
theorem K_:bH Try.prog 112 []=some EY:=by kernel_rfl
theorem La:EY.code.bN=true:=by kernel_rfl
noncomputable def O8:bX:={ nargs:=3,ntmps:=95,code:=codeOf (bH Try.prog 113 []),results:=[(.tmp 6)] }
theorem Lb:bH Try.prog 113 []=some O8:=by kernel_rfl
noncomputable def Ci:bX:={ nargs:=1,ntmps:=25,code:=codeOf (bH Try.prog 114 [[0,2,3,4]]),results:=[(.cell 2 true 1)] }
theorem Lc:bH Try.prog 114 [[0,2,3,4]]=some Ci:=by kernel_rfl
theorem Lg:Ci.code.bN=true:=by kernel_rfl
noncomputable def Dn:cZ:=(cL (cK (cB (cA (cB (cB Ci.code))))))
theorem Gw:Dn.bN=true:=by kernel_rfl
noncomputable def Aj:bX:={ nargs:=2,ntmps:=147,code:=codeOf (bH Try.prog 118 []),results:=[(.cell 4 true 2)] }
theorem Lh:bH Try.prog 118 []=some Aj:=by kernel_rfl
theorem Li:Aj.code.bN=true:=by kernel_rfl
noncomputable def pO:cZ:=(cA (cT (cB (cF (cB (cK (cB (cA (cB (cB (cB Aj.code)))))))))))
theorem sF:pO.bN=true:=by kernel_rfl
noncomputable def mF:cZ:=(cA (cB (cB (cB (cT (cB (cF (cB (cK (cB (cA (cB (cB (cB Aj.code))))))))))))))
theorem qA:mF.bN=true:=by kernel_rfl
noncomputable def EZ:bX:={ nargs:=1,ntmps:=6,code:=codeOf (bH Try.prog 125 []),results:=[(.tmp 2)] }
theorem Lj:bH Try.prog 125 []=some EZ:=by kernel_rfl
theorem Ll:EZ.code.bN=true:=by kernel_rfl
noncomputable def E5:bX:={ nargs:=2,ntmps:=10,code:=codeOf (bH Try.prog 127 []),results:=[] }
theorem Lm:bH Try.prog 127 []=some E5:=by kernel_rfl
theorem Lr:E5.code.bN=true:=by kernel_rfl
noncomputable def Cj:bX:={ nargs:=1,ntmps:=58,code:=codeOf (bH Try.prog 128 []),results:=[(.tmp 2)] }
theorem Ls:bH Try.prog 128 []=some Cj:=by kernel_rfl
theorem Lu:Cj.code.bN=true:=by kernel_rfl
noncomputable def E8:cZ:=(cA (cB Cj.code))
theorem E9:E8.bN=true:=by kernel_rfl
noncomputable def Ck:bX:={ nargs:=2,ntmps:=42,code:=codeOf (bH Try.prog 129 [[0,1,6]]),results:=[(.tmp 4),(.tmp 5)] }
theorem Lv:bH Try.prog 129 [[0,1,6]]=some Ck:=by kernel_rfl
theorem LA:Ck.code.bN=true:=by kernel_rfl
noncomputable def Dp:cZ:=(cL (cK (cB (cA (cB Ck.code)))))
theorem Gx:Dp.bN=true:=by kernel_rfl
noncomputable def E_:bX:={ nargs:=2,ntmps:=14,code:=codeOf (bH Try.prog 132 []),results:=[] }
theorem LB:bH Try.prog 132 []=some E_:=by kernel_rfl
theorem LC:E_.code.bN=true:=by kernel_rfl
noncomputable def Fa:bX:={ nargs:=1,ntmps:=28,code:=codeOf (bH Try.prog 133 [[0,2,3]]),results:=[] }
theorem LD:bH Try.prog 133 [[0,2,3]]=some Fa:=by kernel_rfl
theorem LG:Fa.code.bN=true:=by kernel_rfl
def Cm{α:Type}:List (Nat×α)→Nat→Option α
 | [],_=>none
 | p::r,n=>match Nat.beq p.1 n with
  | true=>some p.2
  | false=>Cm r n
theorem tC{α:Type}:∀ {l:List (Nat×α)} {n:Nat} {x:α},Cm l n=some x→(n,x)∈l
 | [],n,x,h=>by cases h
 | p::r,n,x,h=>by
  simp only[Cm]at h
  split at h
  ·rename_i e
   obtain rfl:=ak h
   rw[←aR e]
   exact List.mem_cons_self
  ·exact List.mem_cons_of_mem _ (tC h)
noncomputable def O9:List (Nat×bX):=[(9,Nq),(23,KM),(45,Gs),(46,KN),(47,KO),(48,KP),(49,KQ),(50,KR),(51,KS),(52,I6),(61,KT),(63,I8),(81,Dl),(82,KU),(83,KV),(84,KW),(85,KX),(86,KY),(87,KZ),(98,K3),(109,Ch),(110,EW),(111,EX),(112,EY),(113,O8),(114,Ci),(118,Aj),(125,EZ),(127,E5),(128,Cj),(129,Ck),(132,E_),(133,Fa)]
noncomputable def LH:FuncId→Option bX:=Cm O9
theorem P9:yc Try.prog 126 O5:=P5 (fn:=Try.f126) (tS:=74) (tR:=4) (e:=87) (size:=2) Try.func126 rfl rfl (by kernel_rfl) (by kernel_rfl) Try.underlying74 (by kernel_rfl)
def Tz:List (Nat×(List AV→Heap→Option (AV×Heap))):=[(113,Gp 2 32)]
def wG:CO:=Cm Tz
theorem P_:∀p∈Tz,(uH Try.prog p.1∧Sound Try.prog p.1 p.2)∨yc Try.prog p.1 p.2 :=
 aI.2 ⟨.inl (Gq (hs:=[]) (zero:=[(.str []),(.str [])]) rfl (by decide) (show bH Try.prog 113 []=some (yQ 2 32 [(.str []),(.str [])] 126 127)by kernel_rfl) (by decide) P9),(λ_ h=>by cases h)⟩
theorem Q7:∀f g,wG f=some g→(uH Try.prog f∧Sound Try.prog f g)∨yc Try.prog f g:=λf g h=>P_ (f,g) (tC h)
noncomputable def bG:Tab:=(wG,LH)
theorem LJ:∀p∈O9,∃h,bH Try.prog p.1 h=some p.2 :=
 aI.2 ⟨⟨_,P7⟩,aI.2 ⟨⟨_,Nr⟩,aI.2 ⟨⟨_,Nt⟩,aI.2 ⟨⟨_,Nv⟩,aI.2 ⟨⟨_,Ny⟩,aI.2 ⟨⟨_,NA⟩,aI.2 ⟨⟨_,ND⟩,aI.2 ⟨⟨_,NH⟩,aI.2 ⟨⟨_,NJ⟩,aI.2 ⟨⟨_,NM⟩,aI.2 ⟨⟨_,NQ⟩,aI.2 ⟨⟨_,NT⟩,aI.2 ⟨⟨_,NV⟩,aI.2 ⟨⟨_,NY⟩,aI.2 ⟨⟨_,N7⟩,aI.2 ⟨⟨_,N9⟩,aI.2 ⟨⟨_,Oa⟩,aI.2 ⟨⟨_,Oc⟩,aI.2 ⟨⟨_,Oe⟩,aI.2 ⟨⟨_,Oh⟩,aI.2 ⟨⟨_,K4⟩,aI.2 ⟨⟨_,K6⟩,aI.2 ⟨⟨_,K8⟩,aI.2 ⟨⟨_,K_⟩,aI.2 ⟨⟨_,Lb⟩,aI.2 ⟨⟨_,Lc⟩,aI.2 ⟨⟨_,Lh⟩,aI.2 ⟨⟨_,Lj⟩,aI.2 ⟨⟨_,Lm⟩,aI.2 ⟨⟨_,Ls⟩,aI.2 ⟨⟨_,Lv⟩,aI.2 ⟨⟨_,LB⟩,aI.2 ⟨⟨_,LD⟩,(λ_ h=>by cases h)⟩⟩⟩⟩⟩⟩⟩⟩⟩⟩⟩⟩⟩⟩⟩⟩⟩⟩⟩⟩⟩⟩⟩⟩⟩⟩⟩⟩⟩⟩⟩⟩⟩
theorem Oj{f:FuncId}{x:bX}(h:LH f=some x):∃hs,bH Try.prog f hs=some x:=LJ (f,x) (tC h)
theorem Ut:bG.1 9=none∧bG.2 9=some Nq∧Nq.code.bN=true:=uo rfl (by kernel_rfl) P8
theorem Si:bG.1 23=none∧bG.2 23=some KM∧KM.code.bN=true:=uo rfl (by kernel_rfl) Ns
theorem Sj:bG.1 45=none∧bG.2 45=some Gs∧Gs.code.bN=true:=uo rfl (by kernel_rfl) Nu
theorem Q8:bG.1 46=none∧bG.2 46=some KN∧KN.code.bN=true:=uo rfl (by kernel_rfl) Nw
theorem Sk:bG.1 47=none∧bG.2 47=some KO∧KO.code.bN=true:=uo rfl (by kernel_rfl) Nz
theorem Sl:bG.1 48=none∧bG.2 48=some KP∧KP.code.bN=true:=uo rfl (by kernel_rfl) NC
theorem Sm:bG.1 49=none∧bG.2 49=some KQ∧KQ.code.bN=true:=uo rfl (by kernel_rfl) NG
theorem Sn:bG.1 50=none∧bG.2 50=some KR∧KR.code.bN=true:=uo rfl (by kernel_rfl) NI
theorem Sq:bG.1 51=none∧bG.2 51=some KS∧KS.code.bN=true:=uo rfl (by kernel_rfl) NK
theorem Sr:bG.1 52=none∧bG.2 52=some I6∧I6.code.bN=true:=uo rfl (by kernel_rfl) NP
theorem Sv:bG.1 61=none∧bG.2 61=some KT∧KT.code.bN=true:=uo rfl (by kernel_rfl) NS
theorem Sw:bG.1 63=none∧bG.2 63=some I8∧I8.code.bN=true:=uo rfl (by kernel_rfl) NU
theorem Sy:bG.1 81=none∧bG.2 81=some Dl∧Dl.code.bN=true:=uo rfl (by kernel_rfl) NW
theorem Q9:bG.1 82=none∧bG.2 82=some KU∧KU.code.bN=true:=uo rfl (by kernel_rfl) NZ
theorem Q_:bG.1 83=none∧bG.2 83=some KV∧KV.code.bN=true:=uo rfl (by kernel_rfl) N8
theorem Sz:bG.1 84=none∧bG.2 84=some KW∧KW.code.bN=true:=uo rfl (by kernel_rfl) N_
theorem Uu:bG.1 85=none∧bG.2 85=some KX∧KX.code.bN=true:=uo rfl (by kernel_rfl) Ob
theorem Uv:bG.1 86=none∧bG.2 86=some KY∧KY.code.bN=true:=uo rfl (by kernel_rfl) Od
theorem Uw:bG.1 87=none∧bG.2 87=some KZ∧KZ.code.bN=true:=uo rfl (by kernel_rfl) Og
theorem SA:bG.1 98=none∧bG.2 98=some K3∧K3.code.bN=true:=uo rfl (by kernel_rfl) Oi
theorem Ra:bG.1 109=none∧bG.2 109=some Ch∧Ch.code.bN=true:=uo rfl (by kernel_rfl) K5
theorem Rb:bG.1 110=none∧bG.2 110=some EW∧EW.code.bN=true:=uo rfl (by kernel_rfl) K7
theorem Rc:bG.1 111=none∧bG.2 111=some EX∧EX.code.bN=true:=uo rfl (by kernel_rfl) K9
theorem O_:bG.1 112=none∧bG.2 112=some EY∧EY.code.bN=true:=uo rfl (by kernel_rfl) La
theorem Rf:bG.1 114=none∧bG.2 114=some Ci∧Ci.code.bN=true:=uo rfl (by kernel_rfl) Lg
theorem Rh:bG.1 118=none∧bG.2 118=some Aj∧Aj.code.bN=true:=uo rfl (by kernel_rfl) Li
theorem Ri:bG.1 125=none∧bG.2 125=some EZ∧EZ.code.bN=true:=uo rfl (by kernel_rfl) Ll
theorem TA:bG.1 127=none∧bG.2 127=some E5∧E5.code.bN=true:=uo rfl (by kernel_rfl) Lr
theorem Rj:bG.1 128=none∧bG.2 128=some Cj∧Cj.code.bN=true:=uo rfl (by kernel_rfl) Lu
theorem Rk:bG.1 129=none∧bG.2 129=some Ck∧Ck.code.bN=true:=uo rfl (by kernel_rfl) LA
theorem TB:bG.1 132=none∧bG.2 132=some E_∧E_.code.bN=true:=uo rfl (by kernel_rfl) LC
theorem TD:bG.1 133=none∧bG.2 133=some Fa∧Fa.code.bN=true:=uo rfl (by kernel_rfl) LG
def TF:List (Nat×Bt):=[(85,.del 2),(86,.clone 2 32),(87,.clip 2),(113,.ins 2 32)]
def wB:FuncId→Option Bt:=Cm TF
theorem Qa(d:Nat):∀p∈TF,FC (bB bG (d+1)) p.1 p.2 :=
 aI.2 ⟨Np (bytes:=32) (zero:=[(.str []),(.str [])]) rfl rfl (show bG.2 85=some (KF 2 32 [(.str []),(.str [])])by kernel_rfl),aI.2 ⟨IU (zero:=[(.str []),(.str [])]) rfl (show bG.2 86=some (sw 2 32 [(.str []),(.str [])])by kernel_rfl),aI.2 ⟨Km rfl (show bG.2 87=some (EG 2)by kernel_rfl),aI.2 ⟨Nh rfl,(λ_ h=>by cases h)⟩⟩⟩⟩
theorem Ak(d:Nat):∀f b,wB f=some b→FC (bB bG (d+1)) f b:=λf b h=>Qa d (f,b) (tC h)
def dL(n:Int)(m:Int):Option (Int) :=
 (M9 .i64 n m).bind λ(x1:Int)=>cond (decide (x1<0)) (some (IntKind.i64.wrap (x1+m))) (some x1)
def yG(n:Int)(m:Int)(r:Int):AV×WH:=((.int .i64 r),[])
theorem eG(d:Nat){n:Int}{m:Int}{r:Int}(h:dL n m=some r):Spec (bB bG (d+1)) 23 [(.int .i64 n),(.int .i64 m)] [] (yG n m r).1 (yG n m r).2:=by
 unfold dL at h
 exact dA nB Si h (.bd λx1 q1=>.v 7 (.int .i64 x1)<|.ob (PV q1:ql .rem .i64 n m=some (.int .i64 x1))<|.br 9 (λ_=>Fn Fo [] none) λ_=>Fn Fo [] none)
def jK(n:Int):Option (List UInt8) :=
 (dL n 6).bind λ(x1:Int)=>(iY ([([]:List UInt8),[49],[50],[116,104,114,101,101],[115,105,120,116,101,101,110,32,98,121,116,101,115,32,105,116],[52]]:List (List UInt8)) x1).bind λ(x2:List UInt8)=>some x2
def wm(n:Int)(r:List UInt8):AV×WH:=((.str r),[])
theorem Al(d:Nat){n:Int}{r:List UInt8}(h:jK n=some r):Spec (bB bG (d+2)) 51 [(.int .i64 n)] [] (wm n r).1 (wm n r).2:=by
 unfold jK at h
 exact dA nB Sq h (.bd λx1 q1=>uQ (eG (d+0) q1)<|.bd λx2 q2=>.v 6 (.str x2)<|.ob (OY Tn q2:wP (.index false 6 1 (.c (.agg [(.str ([]:List UInt8)),(.str [49]),(.str [50]),(.str ([116,104,114,101,101])),(.str ([115,105,120,116,101,101,110,32,98,121,116,101,115,32,105,116])),(.str [52])])) (.c (.int .i64 x1)))=some (.str x2))<|Fn Fo [] none)
abbrev Dq(x1:Int)(n:Int):Fast×WH:=([(0,(.int .i64 n)),(4,(.int .i64 x1))],[])
def Ba(x1:Int)(n:Int):Bool→Ex×Fast×WH:=λe=>(.normal,[(0,(.int .i64 n)),(4,(.int .i64 x1)),(5,(.bool e))],[])
def xO(x1:Int)(n:Int):Option (Bool) :=
 cond (x1==0) (some true) (cond (x1==1) (some true) (some (x1==2)))
theorem Fb(d:Nat){x1:Int}{n:Int}{r:Bool}(h:xO x1 n=some r):kZ (bP (bB bG (d+0)) KK 35 Ag) 0 (Dq x1 n) (Ba x1 n r):=by
 unfold xO at h
 exact iK nB A9 h (.br 5 (λ_=>E0 [0,4,5]) λ_=>.br 5 (λ_=>E0 [0,4,5]) λ_=>E0 [0,4,5])
def Gy(n:Int):Option (Int) :=
 (dL n 7).bind λ(x1:Int)=>(xO x1 n).bind λ(x2:Bool)=>cond x2 ((dL (IntKind.i64.wrap (Int.tdiv n 7)) 40).bind λ(x3:Int)=>some x3) (cond (x1==3) ((dL (IntKind.i64.wrap (Int.tdiv n 7)) 63).bind λ(x4:Int)=>(PS .i64 1 (IntKind.u64.wrap x4)).bind λ(x5:Int)=>(dL (IntKind.i64.wrap (Int.tdiv n 441)) 3).bind λ(x6:Int)=>some (IntKind.i64.wrap (x5-x6))) (cond (x1==4) ((dL (IntKind.i64.wrap (Int.tdiv n 7)) 3).bind λ(x7:Int)=>some (IntKind.i64.wrap (4611686018427387903-x7))) (cond (x1==5) ((dL (IntKind.i64.wrap (Int.tdiv n 7)) 1000).bind λ(x8:Int)=>some x8) (some n))))
def Am(n:Int)(r:Int):AV×WH:=((.int .i64 r),[])
theorem LK(d:Nat){n:Int}{r:Int}(h:Gy n=some r):Spec (bB bG (d+2)) 63 [(.int .i64 n)] [] (Am n r).1 (Am n r).2:=by
 unfold Gy at h
 exact dA nB Sw h (.bd λx1 q1=>uQ (eG (d+0) q1)<|.bd λx2 q2=>Jn [0,4] [none,none] [] [] (Fb (d+1) q2)<|.br 5 (λ_=>.bd λx3 q3=>uQ (eG (d+0) q3)<|Fn Fo [] none) λ_=>.br 12 (λ_=>.bd λx4 q4=>uQ (eG (d+0) q4)<|.bd λx5 q5=>.v 18 (.int .i64 x5)<|.ob (PY q5:yK .shl (.int .i64 1) (.int .u64 (IntKind.u64.wrap x4))=some (.int .i64 x5))<|.bd λx6 q6=>uQ (eG (d+0) q6)<|Fn Fo [] none) λ_=>.br 23 (λ_=>.bd λx7 q7=>uQ (eG (d+0) q7)<|Fn Fo [] none) λ_=>.br 29 (λ_=>.bd λx8 q8=>uQ (eG (d+0) q8)<|Fn Fo [] none) λ_=>Fn Fo [] none)
def xP(n:Int):Option (List UInt8) :=
 (dL n 16).bind λ(x1:Int)=>(iY ([[97],[98],[99],[100],[101],[102],[103],[104],[107,97],[107,98],[107,99],[107,100],[120],[121],[122,122],[101,105,103,104,116,107,101,121]]:List (List UInt8)) x1).bind λ(x2:List UInt8)=>some x2
def Ao(n:Int)(r:List UInt8):AV×WH:=((.str r),[])
theorem LM(d:Nat){n:Int}{r:List UInt8}(h:xP n=some r):Spec (bB bG (d+2)) 50 [(.int .i64 n)] [] (Ao n r).1 (Ao n r).2:=by
 unfold xP at h
 exact dA nB Sn h (.bd λx1 q1=>uQ (eG (d+0) q1)<|.bd λx2 q2=>.v 6 (.str x2)<|.ob (OY Tn q2:wP (.index false 16 1 (.c (.agg [(.str [97]),(.str [98]),(.str [99]),(.str [100]),(.str [101]),(.str [102]),(.str [103]),(.str [104]),(.str ([107,97])),(.str ([107,98])),(.str ([107,99])),(.str ([107,100])),(.str [120]),(.str [121]),(.str ([122,122])),(.str ([101,105,103,104,116,107,101,121]))])) (.c (.int .i64 x1)))=some (.str x2))<|Fn Fo [] none)
abbrev Fe(x1:Int)(value:Int)(old:Int)(x2:List UInt8):Fast×WH:=([(2,(.int .i64 value)),(3,(.int .i64 old)),(8,(.ptr (some (0,0)))),(9,(.ptr (some (1,0))))],[(some (.cells (bS (⟨0,([]:List UInt8),([]:List UInt8),([]:List UInt8)⟩:aX)) false false)),(some (.cells (bS (⟨(IntKind.i64.wrap (1+x1)),x2,([]:List UInt8),([]:List UInt8)⟩:aX)) false false))])
def Dr(x1:Int)(value:Int)(old:Int)(x2:List UInt8):Bool→Ex×Fast×WH:=λe=>(.normal,[(2,(.int .i64 value)),(3,(.int .i64 old)),(8,(.ptr (some (0,0)))),(9,(.ptr (some (1,0)))),(23,(.bool e))],[(some (.cells (bS (⟨0,([]:List UInt8),([]:List UInt8),([]:List UInt8)⟩:aX)) false false)),(some (.cells (bS (⟨(IntKind.i64.wrap (1+x1)),x2,([]:List UInt8),([]:List UInt8)⟩:aX)) false false))])
def wo(x1:Int)(value:Int)(old:Int)(x2:List UInt8):Option (Bool) :=
 cond ((IntKind.i64.wrap (1+x1))==2) (some true) (some ((IntKind.i64.wrap (1+x1))==4))
theorem Gz(d:Nat){x1:Int}{value:Int}{old:Int}{x2:List UInt8}{r:Bool}(h:wo x1 value old x2=some r):kZ (bP (bB bG (d+0)) KK 34 Cg) 0 (Fe x1 value old x2) (Dr x1 value old x2 r):=by
 unfold wo at h
 exact iK nB Dk h (.br 19 (λ_=>E0 [2,3,8,9,23]) λ_=>E0 [2,3,8,9,23])
abbrev Fg(x1:Int)(value:Int)(old:Int)(x2:List UInt8):Fast×WH:=([(2,(.int .i64 value)),(3,(.int .i64 old)),(8,(.ptr (some (0,0)))),(9,(.ptr (some (1,0))))],[(some (.cells (bS (⟨0,([]:List UInt8),([]:List UInt8),([]:List UInt8)⟩:aX)) false false)),(some (.cells (bS (⟨(IntKind.i64.wrap (1+x1)),x2,([]:List UInt8),([]:List UInt8)⟩:aX)) false false))])
def Dt(x1:Int)(value:Int)(old:Int)(x2:List UInt8):aX→Ex×Fast×WH:=λe=>(.normal,[(3,(.int .i64 old)),(8,(.ptr (some (0,0)))),(9,(.ptr (some (1,0))))],[(some (.cells (bS (⟨0,([]:List UInt8),([]:List UInt8),([]:List UInt8)⟩:aX)) false false)),(some (.cells (bS e) false false))])
def wu(x1:Int)(value:Int)(old:Int)(x2:List UInt8):Option (aX) :=
 (wo x1 value old x2).bind λ(x3:Bool)=>cond x3 ((jK value).bind λ(x4:List UInt8)=>some (⟨(IntKind.i64.wrap (1+x1)),x2,x4,([]:List UInt8)⟩:aX)) (some (⟨(IntKind.i64.wrap (1+x1)),x2,([]:List UInt8),([]:List UInt8)⟩:aX))
theorem GA(d:Nat){x1:Int}{value:Int}{old:Int}{x2:List UInt8}{r:aX}(h:wu x1 value old x2=some r):kZ (bP (bB bG (d+2)) KK 34 ER) 0 (Fg x1 value old x2) (Dt x1 value old x2 r):=by
 unfold wu at h
 exact iK nB ES h (.bd λx3 q3=>Jn [2,3,8,9] [none,none,none,none] [] [] (Gz (d+2) q3)<|.br 23 (λ_=>.bd λx4 q4=>uQ (Al (d+0) q4)<|.st none<|E0 [3,8,9]) λ_=>E0 [3,8,9])
def uq(kind:Int)(key:Int)(value:Int)(old:Int):Option (aX) :=
 (dL kind 4).bind λ(x1:Int)=>(xP key).bind λ(x2:List UInt8)=>(wu x1 value old x2).bind λ(x5:aX)=>cond (x5.Kind==4) ((jK old).bind λ(x6:List UInt8)=>some (⟨x5.Kind,x5.Key,x5.Value,x6⟩:aX)) (some x5)
def Cn(kind:Int)(key:Int)(value:Int)(old:Int)(r:aX):AV×WH:=((.agg (bS r)),[])
theorem Ib(d:Nat){kind:Int}{key:Int}{value:Int}{old:Int}{r:aX}(h:uq kind key value old=some r):Spec (bB bG (d+3)) 45 [(.int .i64 kind),(.int .i64 key),(.int .i64 value),(.int .i64 old)] [] (Cn kind key value old r).1 (Cn kind key value old r).2:=by
 unfold uq at h
 exact dA nB Sj h (.bd λx1 q1=>uQ (eG (d+1) q1)<|.bd λx2 q2=>uQ (LM (d+0) q2)<|.st none<|.bd λx5 q5=>Jn [2,3,8,9] [none,none,none,none] [] [] (GA (d+0) q5)<|.br 29 (λ_=>.bd λx6 q6=>uQ (Al (d+0) q6)<|.st none<|.st none<|Fn Fo [] none) λ_=>.st none<|Fn Fo [] none)
abbrev wz(o:aX):Fast×WH:=([(1,(.ptr (some (0,0))))],[(some (.cells (bS o) false false))])
def uR(o:aX):Bool→Ex×Fast×WH:=λe=>(.normal,[(1,(.ptr (some (0,0)))),(3,(.bool e))],[(some (.cells (bS o) false false))])
def kM(o:aX):Option (Bool) :=
 cond (o.Kind==2) (some true) (some (o.Kind==4))
theorem xQ(d:Nat){o:aX}{r:Bool}(h:kM o=some r):kZ (bP (bB bG (d+0)) KK 53 H_) 0 (wz o) (uR o r):=by
 unfold kM at h
 exact iK nB Gu h (.br 7 (λ_=>E0 [1,3]) λ_=>E0 [1,3])
abbrev wC(o:aX)(x1:Bool):Fast×WH:=([(1,(.ptr (some (0,0)))),(3,(.bool x1))],[(some (.cells (bS o) false false))])
def uS(o:aX)(x1:Bool):Bool→Ex×Fast×WH:=λe=>(.normal,[(1,(.ptr (some (0,0)))),(3,(.bool x1)),(12,(.bool e))],[(some (.cells (bS o) false false))])
def kN(o:aX)(x1:Bool):Option (Bool) :=
 cond (decide (o.Kind<1)) (some true) (some (decide (o.Kind>4)))
theorem xR(d:Nat){o:aX}{x1:Bool}{r:Bool}(h:kN o x1=some r):kZ (bP (bB bG (d+0)) KK 53 yF) 0 (wC o x1) (uS o x1 r):=by
 unfold kN at h
 exact iK nB Ai h (.br 16 (λ_=>E0 [1,3,12]) λ_=>E0 [1,3,12])
abbrev wD(o:aX)(x1:Bool):Fast×WH:=([(1,(.ptr (some (0,0)))),(3,(.bool x1))],[(some (.cells (bS o) false false))])
def uT(o:aX)(x1:Bool):Bool→Ex×Fast×WH:=λe=>(.normal,[(1,(.ptr (some (0,0)))),(3,(.bool x1)),(12,(.bool e))],[(some (.cells (bS o) false false))])
def kP(o:aX)(x1:Bool):Option (Bool) :=
 (kN o x1).bind λ(x2:Bool)=>cond x2 (some true) (cond (o.Key==([]:List UInt8)) (some true) (some (decide ((o.Key.length:Int)>8))))
theorem xS(d:Nat){o:aX}{x1:Bool}{r:Bool}(h:kP o x1=some r):kZ (bP (bB bG (d+0)) KK 53 Ah) 0 (wD o x1) (uT o x1 r):=by
 unfold kP at h
 exact iK nB A_ h (.bd λx2 q2=>Jn [1,3] [none,none] [] [] (xR (d+0) q2)<|.br 12 (λ_=>E0 [1,3,12]) λ_=>.br 12 (λ_=>E0 [1,3,12]) λ_=>E0 [1,3,12])
abbrev wE(o:aX)(x1:Bool):Fast×WH:=([(1,(.ptr (some (0,0)))),(3,(.bool x1))],[(some (.cells (bS o) false false))])
def uU(o:aX)(x1:Bool):Unit⊕Unit→Ex×Fast×WH:=fun
 |.inl e=>(.ret,[(2,(.bool false))],[])
 |.inr e=>(.normal,[(1,(.ptr (some (0,0)))),(3,(.bool x1))],[(some (.cells (bS o) false false))])
def kQ(o:aX)(x1:Bool):Option (Unit⊕Unit) :=
 (kP o x1).bind λ(x3:Bool)=>cond x3 (some (.inl ())) (cond (decide ((o.Value.length:Int)>16)) (some (.inl ())) (cond (decide ((o.Old.length:Int)>16)) (some (.inl ())) (some (.inr ()))))
theorem qB(d:Nat){o:aX}{x1:Bool}{r:Unit⊕Unit}(h:kQ o x1=some r):kZ (bP (bB bG (d+0)) KK 53 ET) 0 (wE o x1) (uU o x1 r):=by
 unfold kQ at h
 exact iK nB EU h (.bd λx3 q3=>Jn [1,3] [none,none] [] [] (xS (d+0) q3)<|.br 12 (λ_=>E0 [2]) λ_=>.br 28 (λ_=>E0 [2]) λ_=>.br 28 (λ_=>E0 [2]) λ_=>E0 [1,3])
def j5(o:aX):Option (Bool) :=
 (kM o).bind λ(x1:Bool)=>(kQ o x1).bind λ(x4:Unit⊕Unit)=>cond (yY x4) (some false) (cond x1 (cond (o.Kind==4) (some true) (some (o.Old==([]:List UInt8)))) (cond (o.Value==([]:List UInt8)) (cond (o.Kind==4) (some true) (some (o.Old==([]:List UInt8)))) (some false)))
def rz(o:aX)(r:Bool):AV×WH:=((.bool r),[])
theorem uw(d:Nat){o:aX}{r:Bool}(h:j5 o=some r):Spec (bB bG (d+1)) 81 [(.agg (bS o))] [] (rz o r).1 (rz o r).2:=by
 unfold j5 at h
 exact dA nB Sy h (.sk<|.bd λx1 q1=>Jn [1] [none] [] [] (xQ (d+0) q1)<|.bd λx4 q4=>.ite (λhb5=>Jn [1,3] [none,none] [] [] (Jd (il hb5) (qB (d+0) q4))<|Fn Fo [] none) λhb5=>Jn [1,3] [none,none] [] [] (Jd (Qp hb5) (qB (d+0) q4))<|.br 38 (λ_=>.br 47 (λ_=>Fn Fo [] none) λ_=>Fn Fo [] none) λ_=>.br 43 (λ_=>.br 47 (λ_=>Fn Fo [] none) λ_=>Fn Fo [] none) λ_=>Fn Fo [] none)
def cmp_isNaN_string(a0:List UInt8):Option (Bool) :=
 some (!(a0==a0))
def mG(a0:List UInt8)(r:Bool):AV×WH:=((.bool r),[])
theorem om(d:Nat){a0:List UInt8}{r:Bool}(h:cmp_isNaN_string a0=some r):Spec (bB bG (d+1)) 125 [(.str a0)] [] (mG a0 r).1 (mG a0 r).2:=by
 unfold cmp_isNaN_string at h
 exact dA nB Ri h (Fn Fo [] none)
def iB(a0:List UInt8)(a1:List UInt8):Option (Int) :=
 (cmp_isNaN_string a0).bind λ(x1:Bool)=>(cmp_isNaN_string a1).bind λ(x2:Bool)=>cond x1 (cond x2 (some 0) (some (-1))) (cond x2 (some 1) (cond (Op.bytesLess a0 a1) (some (-1)) (cond (!(Op.bytesLess a0 a1||a0==a1)) (some 1) (some 0))))
def kR(a0:List UInt8)(a1:List UInt8)(r:Int):AV×WH:=((.int .i64 r),[])
theorem sG(d:Nat){a0:List UInt8}{a1:List UInt8}{r:Int}(h:iB a0 a1=some r):Spec (bB bG (d+2)) 111 [(.str a0),(.str a1)] [] (kR a0 a1 r).1 (kR a0 a1 r).2:=by
 unfold iB at h
 exact dA nB Rc h (.bd λx1 q1=>uQ (om (d+0) q1)<|.bd λx2 q2=>uQ (om (d+0) q2)<|.br 11 (λ_=>.br 12 (λ_=>Fn Fo [] none) λ_=>Fn Fo [] none) λ_=>.br 13 (λ_=>Fn Fo [] none) λ_=>.br 16 (λ_=>Fn Fo [] none) λ_=>.br 19 (λ_=>Fn Fo [] none) λ_=>Fn Fo [] none)
def d9(p:aA)(key:List UInt8):Option (Int) :=
 (iB p.Key key).bind λ(x1:Int)=>some x1
def kS(p:aA)(key:List UInt8)(r:Int):AV×WH:=((.int .i64 r),[])
theorem mH(d:Nat){p:aA}{key:List UInt8}{r:Int}(h:d9 p key=some r):Spec (bB bG (d+3)) 110 [(.agg (qP p)),(.str key)] [] (kS p key r).1 (kS p key r).2:=by
 unfold d9 at h
 exact dA nB Rb h (.bd λx1 q1=>uQ (sG (d+0) q1)<|Fn Fo [] none)
def bF(a0:List aA)(a1:List UInt8)(s3:Int×Int):List AV×WH:=([(dx a0),(.str a1),(.func 110 []),(.int .i64 (a0.length:Int)),(.int .i64 s3.1),(.int .i64 s3.2)],[])
def bM(a0:List aA)(a1:List UInt8):Int→Ex×Fast×WH:=λe=>((.exit 0),[(0,(dx a0)),(1,(.str a1)),(2,(.func 110 [])),(8,(.int .i64 (a0.length:Int))),(9,(.int .i64 e))],[])
abbrev eX(a0:List aA)(a1:List UInt8):=qb [0,1,2,8,9,10] (bF a0 a1) (bM a0 a1)
def bC(a0:List aA)(a1:List UInt8)(s3:Int×Int):Option ((Int×Int)⊕(Int)) :=
 cond (decide (s3.1<s3.2)) ((iY a0 (IntKind.i64.wrap (IW .u64 (IntKind.u64.wrap (IntKind.i64.wrap (s3.1+s3.2))) 1))).bind λ(x4:aA)=>(d9 x4 a1).bind λ(x5:Int)=>cond (decide (x5<0)) (some (.inl ((IntKind.i64.wrap ((IntKind.i64.wrap (IW .u64 (IntKind.u64.wrap (IntKind.i64.wrap (s3.1+s3.2))) 1))+1)),s3.2))) (some (.inl (s3.1,(IntKind.i64.wrap (IW .u64 (IntKind.u64.wrap (IntKind.i64.wrap (s3.1+s3.2))) 1)))))) (some (.inr s3.1))
def bT(a0:List aA)(a1:List UInt8)(s3:Int×Int):Option (Int):=mo (bC a0 a1) KK s3
theorem fB(d:Nat){a0:List aA}{a1:List UInt8}{s3:Int×Int}{r:(Int×Int)⊕(Int)}(h:bC a0 a1 s3=some r):kZ (bP (bB bG (d+3)) KK 49 Dm) 0 (Jc [0,1,2,8,9,10] (bF a0 a1 s3)) (eX a0 a1 r):=by
 unfold bC at h
 exact iK nB Gv h (.br 17 (λ_=>.bd λx4 q4=>Ix aT 27 q4<|.bd λx5 q5=>uQ (mH (d+0) q5)<|.br 31 (λ_=>E1 [0,1,2,8,9,10] [none,none,none,none,none,none] [] [.slice none 2 0 0 true,.undef,.undef,.undef,.undef,.undef]) λ_=>E1 [0,1,2,8,9,10] [none,none,none,none,none,none] [] [.slice none 2 0 0 true,.undef,.undef,.undef,.undef,.undef]) λ_=>E1 [0,1,2,8,9] [none,none,none,none,none] [] [.slice none 2 0 0 true,.undef,.undef,.undef,.undef])
theorem fC(d:Nat){a0:List aA}{a1:List UInt8}{s3:Int×Int}{r:Int}(h:bT a0 a1 s3=some r):kZ (nT (bP (bB bG (d+3)) KK 49 Dm) [0,1,2,8,9,10] KK) 0 (Jc [0,1,2,8,9,10] (bF a0 a1 s3)) (bM a0 a1 r) :=
 qM (st:=bF a0 a1) (fin:=bM a0 a1) (step:=bC a0 a1) (λe=>by(intro h;cases h)) (λs x h=>fB d h) KK s3 r h
def bA(a0:List aA)(a1:List UInt8):Option (Int×Bool) :=
 (bT a0 a1 (0,(a0.length:Int))).bind λ(x6:Int)=>cond (decide (x6<(a0.length:Int))) ((iY a0 x6).bind λ(x7:aA)=>(d9 x7 a1).bind λ(x8:Int)=>some (x6,(x8==0))) (some (x6,false))
def dG(a0:List aA)(a1:List UInt8)(r:Int×Bool):AV×WH:=((.tuple [(.int .i64 r.1),(.bool r.2)]),[])
theorem dK(d:Nat){a0:List aA}{a1:List UInt8}{r:Int×Bool}(h:bA a0 a1=some r):Spec (bB bG (d+4)) 109 [(dx a0),(.str a1),(.func 110 [])] [] (dG a0 a1 r).1 (dG a0 a1 r).2:=by
 unfold bA at h
 exact dA nB Ra h (.bd λx6 q6=>Lp [none,none,none,none,none,none] [] [.slice none 2 0 0 true,.undef,.undef,.undef,.undef,.undef] (fC (d+0) q6)<|.br 39 (λ_=>.bd λx7 q7=>Ix aT 43 q7<|.bd λx8 q8=>uQ (mH (d+0) q8)<|Fn Fo [] none) λ_=>Fn Fo [] none)
def lQ(key:List UInt8):Option (Int×Bool) :=
 (bA [] key).bind λ(x1:Int×Bool)=>some (x1.1,x1.2)
def mI(key:List UInt8)(r:Int×Bool):AV×WH:=((.tuple [(.int .i64 r.1),(.bool r.2)]),[(some (.cells [(.slice none 2 0 0 true)] false false))])
theorem uV(d:Nat){key:List UInt8}{r:Int×Bool}(h:lQ key=some r):Spec (bB bG (d+5)) 82 [(.ptr (some (0,0))),(.str key)] [(some (.cells [(.slice none 2 0 0 true)] false false))] (mI key r).1 (mI key r).2:=by
 unfold lQ at h
 exact dA nB Q9 h (.bd λx1 q1=>Cb [.slice none 2 0 0 true] (dK (d+0) q1)<|Fn Fo [] none)
def mW(k:Int)(value:List UInt8):Option (List aA) :=
 gd (fZ 32 0) ((iY ([]:List aA) k).bind λ(x2:aA)=>some (([]:List aA).set k.toNat (⟨x2.Key,value⟩:aA)))
def dX(k:Int)(value:List UInt8)(r:List aA):AV×WH:=((.tuple []),[(some (.cells [(.acc 1 0 2 r.length true)] false false)),(some (.cells (aH r) false true))])
theorem wF(d:Nat){k:Int}{value:List UInt8}{r:List aA}(h:mW k value=some r):Spec (bB bG (d+2)) 112 [(.ptr (some (0,0))),(.int .i64 k),(.str value)] [(some (.cells [(.slice none 2 0 0 true)] false false))] (dX k value r).1 (dX k value r).2:=by
 unfold mW at h
 exact dA (Ak _) O_ h (.gd λq1=>.ob q1<|.st none<|.bd λx2 q2=>.v 20 (.ptr (some (1,0+k.toNat*2)))<|.ob (HV aT q2:wP (.eY 2 (.c (.acc 1 0 2 0 true)) (.c (.int .i64 k)))=some (.ptr (some (1,0+k.toNat*2))))<|.st (some (aH (([]:List aA).set k.toNat (⟨x2.Key,value⟩:aA))))<|.ob (Gd (o:=1) aT q2 rfl:FB (aH ([]:List aA)) (0+k.toNat*2+1) [(.str value)]=some (aH (([]:List aA).set k.toNat (⟨x2.Key,value⟩:aA))))<|.vI (.fin (some false) [] none) _ (λr=>@Eq AV (.tuple []) (dX k value r).1∧@Eq WH [(some (.cells [(.acc 1 0 2 0 true)] false false)),(some (.cells (aH (([]:List aA).set k.toNat (⟨x2.Key,value⟩:aA))) false true))] (dX k value r).2) (by show _∧_;(try rw[show AV.list 2 ([]:List aA).length (aH (([]:List aA).set k.toNat (⟨x2.Key,value⟩:aA))) false=dx (([]:List aA).set k.toNat (⟨x2.Key,value⟩:aA))from by simp only[dx,bO]]);refine⟨?_, ?_⟩<;>first | rfl |(simp only[dX,bO,aG,List.length_replicate,bE,eF,aQ,aM,Nat.add_zero,Nat.zero_add];done) | simp[dX]))
def mX(o:aX)(k:Int)(had:Bool):Option (aO×List aA) :=
 cond had ((mW k o.Value).bind λ(x1:List aA)=>some ((⟨0,([]:List UInt8)⟩:aO),x1)) (gd (fZ 32 0) (gd (EL 32 k 0) (some ((⟨0,([]:List UInt8)⟩:aO),(mV ([]:List aA) k (⟨o.Key,o.Value⟩:aA))))))
def ni(o:aX)(k:Int)(had:Bool)(r:aO×List aA):AV×WH:=((.agg (bI r.1)),[(some (.cells [(.acc 1 0 2 r.2.length true)] false false)),(some (.cells (aH r.2) false true))])
theorem wH(d:Nat){o:aX}{k:Int}{had:Bool}{r:aO×List aA}(h:mX o k had=some r):Spec (bB bG (d+3)) 83 [(.ptr (some (0,0))),(.agg (bS o)),(.int .i64 k),(.bool had)] [(some (.cells [(.slice none 2 0 0 true)] false false))] (ni o k had r).1 (ni o k had r).2:=by
 unfold mX at h
 exact dA (Ak _) Q_ h (.br 25 (λ_=>.bd λx1 q1=>EM (wF (d+0) q1)<|.st none<|Fn Fo [] none) λ_=>.gd λq2=>.ob q2<|.gd λq3=>.ob (Gf q3:(0≤k∧k≤((0:Nat):Int)))<|.ap 22 (mV ([]:List aA) k (⟨o.Key,o.Value⟩:aA)).length (aH (mV ([]:List aA) k (⟨o.Key,o.Value⟩:aA)))<|.ob (Gg (l:=([]:List aA)) q3:0+1=(mV ([]:List aA) k (⟨o.Key,o.Value⟩:aA)).length)<|.ob (H6 aT rfl:(aH ([]:List aA)).take (k.toNat*2)++([(.str o.Key),(.str o.Value)]++(aH ([]:List aA)).drop (k.toNat*2))=aH (mV ([]:List aA) k (⟨o.Key,o.Value⟩:aA)))<|.ob (Kt (l:=([]:List aA)) q3:fZ 32 (mV ([]:List aA) k (⟨o.Key,o.Value⟩:aA)).length=true)<|.st none<|.st none<|Fn Fo [] none)
def eH(k:Int)(value:List UInt8)(aU:List aA):Option (List aA) :=
 gd (fZ 32 aU.length) ((iY aU k).bind λ(x2:aA)=>some (aU.set k.toNat (⟨x2.Key,value⟩:aA)))
def dO(k:Int)(value:List UInt8)(aU:List aA)(r:List aA):AV×WH:=((.tuple []),[(some (.cells [(.acc 2 0 2 r.length true)] false false)),(some (.cells (aH aU) false true)),(some (.cells (aH r) false true))])
theorem nu(d:Nat){k:Int}{value:List UInt8}{aU:List aA}{r:List aA}(h:eH k value aU=some r):Spec (bB bG (d+2)) 112 [(.ptr (some (0,0))),(.int .i64 k),(.str value)] [(some (.cells [(.acc 1 0 2 aU.length true)] false false)),(some (.cells (aH aU) false true))] (dO k value aU r).1 (dO k value aU r).2:=by
 unfold eH at h
 exact dA (Ak _) O_ h (.gd λq1=>.ob q1<|.st none<|.bd λx2 q2=>Ia aT 20 2 q2<|.st (some (aH (aU.set k.toNat (⟨x2.Key,value⟩:aA))))<|.ob (Gd (o:=1) aT q2 rfl:FB (aH aU) (0+k.toNat*2+1) [(.str value)]=some (aH (aU.set k.toNat (⟨x2.Key,value⟩:aA))))<|.vI (.fin (some false) [] none) _ (λr=>@Eq AV (.tuple []) (dO k value aU r).1∧@Eq WH [(some (.cells [(.acc 2 0 2 aU.length true)] false false)),(some (.cells (aH aU) false true)),(some (.cells (aH (aU.set k.toNat (⟨x2.Key,value⟩:aA))) false true))] (dO k value aU r).2) (by show _∧_;(try rw[show AV.list 2 aU.length (aH (aU.set k.toNat (⟨x2.Key,value⟩:aA))) false=dx (aU.set k.toNat (⟨x2.Key,value⟩:aA))from by simp only[dx,bO]]);refine⟨?_, ?_⟩<;>first | rfl |(simp only[dO,bO,aG,List.length_replicate,bE,eF,aQ,aM,Nat.add_zero,Nat.zero_add];done) | simp[dO]))
def gK(o:aX)(k:Int)(aU:List aA):Option (aO×List aA) :=
 (iY aU k).bind λ(x1:aA)=>cond (!(x1.Value==o.Old)) (some ((⟨6,x1.Value⟩:aO),aU)) ((eH k o.Value aU).bind λ(x2:List aA)=>some ((⟨0,([]:List UInt8)⟩:aO),x2))
def lD(o:aX)(k:Int)(aU:List aA)(r:aO×List aA):AV×WH:=((.agg (bI r.1)),[(some (.cells [(.acc 2 0 2 r.2.length true)] false false)),none,(some (.cells (aH r.2) false true))])
theorem ny(d:Nat){o:aX}{k:Int}{aU:List aA}{r:aO×List aA}(h:gK o k aU=some r):Spec (bB bG (d+3)) 84 [(.ptr (some (0,0))),(.agg (bS o)),(.int .i64 k)] [(some (.cells [(.acc 1 0 2 aU.length true)] false false)),(some (.cells (aH aU) false true))] (lD o k aU r).1 (lD o k aU r).2:=by
 unfold gK at h
 exact dA nB Sz h (.bd λx1 q1=>Ia aT 13 1 q1<|Ld aT 15 false 1 1 q1 (.str x1.Value) rfl<|.br 19 (λ_=>.st none<|Fn Fo [] Tw) λ_=>.bd λx2 q2=>EM (nu (d+0) q2)<|.st none<|.kl [1]<|Fn Fo [] Tw)
def oo(o:aX):Option (aO×List aA) :=
 (j5 o).bind λ(x1:Bool)=>cond (!x1) (some ((⟨1,([]:List UInt8)⟩:aO),[])) ((lQ o.Key).bind λ(x2:Int×Bool)=>cond (o.Kind==2) ((mX o x2.1 x2.2).bind λ(x3:aO×List aA)=>some (x3.1,x3.2)) (cond (!x2.2) (some ((⟨4,([]:List UInt8)⟩:aO),[])) (cond (o.Kind==1) (none) (cond (o.Kind==4) ((gK o x2.1 []).bind λ(x4:aO×List aA)=>some (x4.1,x4.2)) (gd (fZ 32 0) (gd (Ku x2.1 (IntKind.i64.wrap (x2.1+1)) 0) (some ((⟨0,([]:List UInt8)⟩:aO),(nZ ([]:List aA) x2.1 (IntKind.i64.wrap (x2.1+1)))))))))))
def bZ(o:aX)(r:aO×List aA):AV×WH:=((.agg (bI r.1)),[(some (.cells [(.acc 1 0 2 r.2.length true)] false false)),(some (.cells (aH r.2) false true))])
theorem xU(d:Nat){o:aX}{r:aO×List aA}(h:oo o=some r):Spec (bB bG (d+6)) 46 [(.ptr (some (0,0))),(.agg (bS o))] [(some (.cells [(.slice none 2 0 0 true)] false false))] (bZ o r).1 (bZ o r).2:=by
 unfold oo at h
 exact dA (Ak _) Q8 h (.bd λx1 q1=>uQ (uw (d+4) q1)<|.br 9 (λ_=>.st none<|.vI (.fin (some false) [] (some true)) _ (λr=>@Eq AV (.agg (bI (⟨1,([]:List UInt8)⟩:aO))) (bZ o r).1∧@Eq WH [(some (.cells [(.acc 1 0 2 0 true)] false false)),(some (.cells (aH []) false true))] (bZ o r).2) (by show _∧_;refine⟨?_, ?_⟩<;>first | rfl |(simp only[bZ,bO,aG,List.length_replicate,bE,eF,aQ,aM,Nat.add_zero,Nat.zero_add];done) | simp[bZ])) λ_=>.bd λx2 q2=>EM (uV (d+0) q2)<|.br 18 (λ_=>.bd λx3 q3=>EM (wH (d+2) q3)<|.st none<|Fn Fo [] Tw) λ_=>.br 27 (λ_=>.st none<|.vI (.fin (some false) [] (some true)) _ (λr=>@Eq AV (.agg (bI (⟨4,([]:List UInt8)⟩:aO))) (bZ o r).1∧@Eq WH [(some (.cells [(.acc 1 0 2 0 true)] false false)),(some (.cells (aH []) false true))] (bZ o r).2) (by show _∧_;refine⟨?_, ?_⟩<;>first | rfl |(simp only[bZ,bO,aG,List.length_replicate,bE,eF,aQ,aM,Nat.add_zero,Nat.zero_add];done) | simp[bZ])) λ_=>.br 31 (λ_=>.fail) λ_=>.br 44 (λ_=>.bd λx4 q4=>Cl [] Tw [] (ny (d+2) q4)<|.st none<|Fn Fo [] Tw) λ_=>.gd λq5=>.ob q5<|.gd λq6=>.ob (Gh q6:(0≤x2.1∧x2.1<(IntKind.i64.wrap (x2.1+1))∧(IntKind.i64.wrap (x2.1+1))≤((0:Nat):Int)))<|.ap 61 (nZ ([]:List aA) x2.1 (IntKind.i64.wrap (x2.1+1))).length (aH (nZ ([]:List aA) x2.1 (IntKind.i64.wrap (x2.1+1))))<|.ob (Kv (l:=([]:List aA)) q6:0-((IntKind.i64.wrap (x2.1+1)).toNat-x2.1.toNat)=(nZ ([]:List aA) x2.1 (IntKind.i64.wrap (x2.1+1))).length)<|.ob (H7 aT:(aH ([]:List aA)).take (x2.1.toNat*2)++(aH ([]:List aA)).drop ((IntKind.i64.wrap (x2.1+1)).toNat*2)=aH (nZ ([]:List aA) x2.1 (IntKind.i64.wrap (x2.1+1))))<|.st none<|.st none<|Fn Fo [] Tw)
def iJ(aU:List aA):Option (Int) :=
 some (aU.length:Int)
def nA(aU:List aA)(r:Int):AV×WH:=((.int .i64 r),[(some (.cells [(.acc 1 0 2 aU.length true)] false false)),(some (.cells (aH aU) false true))])
theorem pQ(d:Nat){aU:List aA}{r:Int}(h:iJ aU=some r):Spec (bB bG (d+1)) 47 [(.ptr (some (0,0)))] [(some (.cells [(.acc 1 0 2 aU.length true)] false false)),(some (.cells (aH aU) false true))] (nA aU r).1 (nA aU r).2:=by
 unfold iJ at h
 exact dA nB Sk h (Fn Fo [] none)
def iD(key:List UInt8)(aU:List aA):Option (Int×Bool) :=
 (bA aU key).bind λ(x1:Int×Bool)=>some (x1.1,x1.2)
def kT(key:List UInt8)(aU:List aA)(r:Int×Bool):AV×WH:=((.tuple [(.int .i64 r.1),(.bool r.2)]),[(some (.cells [(.acc 1 0 2 aU.length true)] false false)),(some (.cells (aH aU) false true))])
theorem sH(d:Nat){key:List UInt8}{aU:List aA}{r:Int×Bool}(h:iD key aU=some r):Spec (bB bG (d+5)) 82 [(.ptr (some (0,0))),(.str key)] [(some (.cells [(.acc 1 0 2 aU.length true)] false false)),(some (.cells (aH aU) false true))] (kT key aU r).1 (kT key aU r).2:=by
 unfold iD at h
 exact dA nB Q9 h (.bd λx1 q1=>Cb [.slice none 2 0 0 true] (dK (d+0) q1)<|Fn Fo [] none)
def iN(o:aX)(k:Int)(had:Bool)(aU:List aA):Option (aO×List aA) :=
 cond had ((eH k o.Value aU).bind λ(x1:List aA)=>some ((⟨0,([]:List UInt8)⟩:aO),x1)) (cond ((aU.length:Int)==8) (some ((⟨5,([]:List UInt8)⟩:aO),aU)) (gd (fZ 32 aU.length) (gd (EL 32 k aU.length) (some ((⟨0,([]:List UInt8)⟩:aO),(mV aU k (⟨o.Key,o.Value⟩:aA)))))))
def lF(o:aX)(k:Int)(had:Bool)(aU:List aA)(r:aO×List aA):AV×WH:=((.agg (bI r.1)),[(some (.cells [(.acc 2 0 2 r.2.length true)] false false)),none,(some (.cells (aH r.2) false true))])
theorem tL(d:Nat){o:aX}{k:Int}{had:Bool}{aU:List aA}{r:aO×List aA}(h:iN o k had aU=some r):Spec (bB bG (d+3)) 83 [(.ptr (some (0,0))),(.agg (bS o)),(.int .i64 k),(.bool had)] [(some (.cells [(.acc 1 0 2 aU.length true)] false false)),(some (.cells (aH aU) false true))] (lF o k had aU r).1 (lF o k had aU r).2:=by
 unfold iN at h
 exact dA (Ak _) Q_ h (.br 25 (λ_=>.bd λx1 q1=>EM (nu (d+0) q1)<|.st none<|.kl [1]<|Fn Fo [] Tw) λ_=>.br 32 (λ_=>.st none<|Fn Fo [] Tw) λ_=>.gd λq2=>.ob q2<|.gd λq3=>.ob (Gf q3:(0≤k∧k≤((aU.length:Nat):Int)))<|.ap 22 (mV aU k (⟨o.Key,o.Value⟩:aA)).length (aH (mV aU k (⟨o.Key,o.Value⟩:aA)))<|.ob (Gg (l:=aU) q3:aU.length+1=(mV aU k (⟨o.Key,o.Value⟩:aA)).length)<|.ob (H6 aT rfl:(aH aU).take (k.toNat*2)++([(.str o.Key),(.str o.Value)]++(aH aU).drop (k.toNat*2))=aH (mV aU k (⟨o.Key,o.Value⟩:aA)))<|.ob (Kt (l:=aU) q3:fZ 32 (mV aU k (⟨o.Key,o.Value⟩:aA)).length=true)<|.st none<|.st none<|.kl [1]<|Fn Fo [] Tw)
def eu(o:aX)(aU:List aA):Option (aO×List aA) :=
 (j5 o).bind λ(x1:Bool)=>cond (!x1) (some ((⟨1,([]:List UInt8)⟩:aO),aU)) ((iD o.Key aU).bind λ(x2:Int×Bool)=>cond (o.Kind==2) ((iN o x2.1 x2.2 aU).bind λ(x3:aO×List aA)=>some (x3.1,x3.2)) (cond (!x2.2) (some ((⟨4,([]:List UInt8)⟩:aO),aU)) (cond (o.Kind==1) ((iY aU x2.1).bind λ(x4:aA)=>some ((⟨0,x4.Value⟩:aO),aU)) (cond (o.Kind==4) ((gK o x2.1 aU).bind λ(x5:aO×List aA)=>some (x5.1,x5.2)) (gd (fZ 32 aU.length) (gd (Ku x2.1 (IntKind.i64.wrap (x2.1+1)) aU.length) (some ((⟨0,([]:List UInt8)⟩:aO),(nZ aU x2.1 (IntKind.i64.wrap (x2.1+1)))))))))))
def mJ(o:aX)(aU:List aA)(r:aO×List aA):AV×WH:=((.agg (bI r.1)),[(some (.cells [(.acc 2 0 2 r.2.length true)] false false)),none,(some (.cells (aH r.2) false true))])
theorem jV(d:Nat){o:aX}{aU:List aA}{r:aO×List aA}(h:eu o aU=some r):Spec (bB bG (d+6)) 46 [(.ptr (some (0,0))),(.agg (bS o))] [(some (.cells [(.acc 1 0 2 aU.length true)] false false)),(some (.cells (aH aU) false true))] (mJ o aU r).1 (mJ o aU r).2:=by
 unfold eu at h
 exact dA (Ak _) Q8 h (.bd λx1 q1=>uQ (uw (d+4) q1)<|.br 9 (λ_=>.st none<|Fn Fo [] Tw) λ_=>.bd λx2 q2=>EM (sH (d+0) q2)<|.br 18 (λ_=>.bd λx3 q3=>EM (tL (d+2) q3)<|.st none<|Fn Fo [] Tw) λ_=>.br 27 (λ_=>.st none<|Fn Fo [] Tw) λ_=>.br 31 (λ_=>.bd λx4 q4=>Ia aT 40 1 q4<|Ld aT 42 false 1 1 q4 (.str x4.Value) rfl<|.st none<|Fn Fo [] Tw) λ_=>.br 44 (λ_=>.bd λx5 q5=>EM (ny (d+2) q5)<|.st none<|Fn Fo [] Tw) λ_=>.gd λq6=>.ob q6<|.gd λq7=>.ob (Gh q7:(0≤x2.1∧x2.1<(IntKind.i64.wrap (x2.1+1))∧(IntKind.i64.wrap (x2.1+1))≤((aU.length:Nat):Int)))<|.ap 61 (nZ aU x2.1 (IntKind.i64.wrap (x2.1+1))).length (aH (nZ aU x2.1 (IntKind.i64.wrap (x2.1+1))))<|.ob (Kv (l:=aU) q7:aU.length-((IntKind.i64.wrap (x2.1+1)).toNat-x2.1.toNat)=(nZ aU x2.1 (IntKind.i64.wrap (x2.1+1))).length)<|.ob (H7 aT:(aH aU).take (x2.1.toNat*2)++(aH aU).drop ((IntKind.i64.wrap (x2.1+1)).toNat*2)=aH (nZ aU x2.1 (IntKind.i64.wrap (x2.1+1))))<|.st none<|.st none<|.kl [1]<|Fn Fo [] Tw)
def gL(aU:List aA):Option (List aA) :=
 gd (fZ 32 aU.length) (some aU)
def lG(aU:List aA)(r:List aA):AV×WH:=((dx r),[(some (.cells [(.acc 1 0 2 aU.length true)] false false)),(some (.cells (aH aU) false true))])
theorem tN(d:Nat){aU:List aA}{r:List aA}(h:gL aU=some r):Spec (bB bG (d+2)) 48 [(.ptr (some (0,0)))] [(some (.cells [(.acc 1 0 2 aU.length true)] false false)),(some (.cells (aH aU) false true))] (lG aU r).1 (lG aU r).2:=by
 unfold gL at h
 exact dA (Ak _) Sl h (.z 2 [.slice none 2 0 0 true]<|.gd λq1=>.ob q1<|Fn Fo [.slice none 2 0 0 true] none)
def iO :Option (Bool) :=
 (oo (⟨2,[97],[49],([]:List UInt8)⟩:aX)).bind λ(x1:aO×List aA)=>(eu (⟨4,[97],[50],[51]⟩:aX) x1.2).bind λ(x2:aO×List aA)=>cond (x1.1.Why==0&&(x1.1.Value==([]:List UInt8)&&true)) (cond (x2.1.Why==6&&(x2.1.Value==[49]&&true)) ((iJ x2.2).bind λ(x3:Int)=>some (x3==1)) (some false)) (some false)
def lH(r:Bool):AV×WH:=((.bool r),[])
theorem tO(d:Nat) {r:Bool}(h:iO=some r):Spec (bB bG (d+7)) 49 [] [] (lH r).1 (lH r).2:=by
 unfold iO at h
 exact dA nB Sm h (.z 4 [.agg [.slice none 2 0 0 true]]<|.z 1 [.slice none 2 0 0 true]<|.st none<|.bd λx1 q1=>EM (xU (d+0) q1)<|.st none<|.bd λx2 q2=>EM (jV (d+0) q2)<|.st none<|.br 12 (λ_=>.br 17 (λ_=>.bd λx3 q3=>EM (pQ (d+5) q3)<|Fn Fo [] none) λ_=>Fn Fo [] none) λ_=>Fn Fo [] none)
abbrev oq(mK:aX)(x18:List UInt8×Bool)(s15:Int×(List (List UInt8×List UInt8))×List aA)(ops:List bV)(qd:aO×List aA):Fast×WH:=([(3,(.ptr (some (0,0)))),(4,(.map (some 1))),(7,(.ptr (some (2,0)))),(8,(.str x18.1)),(9,(.bool x18.2)),(10,(.ptr (some (3,0)))),(11,(.ptr (some (4,0)))),(19,(jU ops)),(20,(.int .i64 (ops.length:Int))),(21,(.int .i64 s15.1))],[(some (.cells [(.acc 5 0 2 qd.2.length true)] false false)),(some (.map (gq s15.2.1))),(some (.cells (bS mK) false false)),(some (.cells (bI qd.1) false false)),(some (.cells (bI (⟨0,([]:List UInt8)⟩:aO)) false false)),(some (.cells (aH qd.2) false true))])
def nH(mK:aX)(x18:List UInt8×Bool)(s15:Int×(List (List UInt8×List UInt8))×List aA)(ops:List bV)(qd:aO×List aA):Bool→Ex×Fast×WH:=λe=>(.normal,[(3,(.ptr (some (0,0)))),(4,(.map (some 1))),(7,(.ptr (some (2,0)))),(8,(.str x18.1)),(9,(.bool x18.2)),(10,(.ptr (some (3,0)))),(11,(.ptr (some (4,0)))),(19,(jU ops)),(20,(.int .i64 (ops.length:Int))),(21,(.int .i64 s15.1)),(49,(.bool e))],[(some (.cells [(.acc 5 0 2 qd.2.length true)] false false)),(some (.map (gq s15.2.1))),(some (.cells (bS mK) false false)),(some (.cells (bI qd.1) false false)),(some (.cells (bI (⟨0,([]:List UInt8)⟩:aO)) false false)),(some (.cells (aH qd.2) false true))])
def eO(mK:aX)(x18:List UInt8×Bool)(s15:Int×(List (List UInt8×List UInt8))×List aA)(ops:List bV)(qd:aO×List aA):Option (Bool) :=
 cond (mK.Kind==2) (cond (!x18.2) (some ((s15.2.1.length:Int)==8)) (some false)) (some false)
theorem oJ(d:Nat){mK:aX}{x18:List UInt8×Bool}{s15:Int×(List (List UInt8×List UInt8))×List aA}{ops:List bV}{qd:aO×List aA}{r:Bool}(h:eO mK x18 s15 ops qd=some r):kZ (bP (bB bG (d+0)) KK 153 jZ) 0 (oq mK x18 s15 ops qd) (nH mK x18 s15 ops qd r):=by
 unfold eO at h
 exact iK nB oh h (.br 53 (λ_=>.br 57 (λ_=>.v 59 (.int .i64 (s15.2.1.length:Int))<|.ob (Ko _ _ _:@Eq (Option AV) (some (.int .i64 (gq s15.2.1).length)) (some (.int .i64 (s15.2.1.length:Int))))<|E1 [3,4,7,8,9,10,11,19,20,21,49] [none,none,none,none,none,none,none,none,none,none,none] [] [.undef,.undef,.undef,.undef,.undef,.undef,.undef,.slice none 8 0 0 true,.undef,.undef,.undef]) λ_=>E1 [3,4,7,8,9,10,11,19,20,21,49] [none,none,none,none,none,none,none,none,none,none,none] [] [.undef,.undef,.undef,.undef,.undef,.undef,.undef,.slice none 8 0 0 true,.undef,.undef,.undef]) λ_=>E1 [3,4,7,8,9,10,11,19,20,21,49] [none,none,none,none,none,none,none,none,none,none,none] [] [.undef,.undef,.undef,.undef,.undef,.undef,.undef,.slice none 8 0 0 true,.undef,.undef,.undef])
abbrev ou(mK:aX)(x18:List UInt8×Bool)(s15:Int×(List (List UInt8×List UInt8))×List aA)(ops:List bV)(qd:aO×List aA):Fast×WH:=([(3,(.ptr (some (0,0)))),(4,(.map (some 1))),(7,(.ptr (some (2,0)))),(8,(.str x18.1)),(9,(.bool x18.2)),(10,(.ptr (some (3,0)))),(11,(.ptr (some (4,0)))),(19,(jU ops)),(20,(.int .i64 (ops.length:Int))),(21,(.int .i64 s15.1))],[(some (.cells [(.acc 5 0 2 qd.2.length true)] false false)),(some (.map (gq s15.2.1))),(some (.cells (bS mK) false false)),(some (.cells (bI qd.1) false false)),(some (.cells (bI (⟨0,([]:List UInt8)⟩:aO)) false false)),(some (.cells (aH qd.2) false true))])
def nI(mK:aX)(x18:List UInt8×Bool)(s15:Int×(List (List UInt8×List UInt8))×List aA)(ops:List bV)(qd:aO×List aA):((List (List UInt8×List UInt8))×aO)→Ex×Fast×WH:=λe=>(.normal,[(3,(.ptr (some (0,0)))),(4,(.map (some 1))),(10,(.ptr (some (2,0)))),(11,(.ptr (some (3,0)))),(19,(jU ops)),(20,(.int .i64 (ops.length:Int))),(21,(.int .i64 s15.1))],[(some (.cells [(.acc 4 0 2 qd.2.length true)] false false)),(some (.map (gq e.1))),(some (.cells (bI qd.1) false false)),(some (.cells (bI e.2) false false)),(some (.cells (aH qd.2) false true))])
def dR(mK:aX)(x18:List UInt8×Bool)(s15:Int×(List (List UInt8×List UInt8))×List aA)(ops:List bV)(qd:aO×List aA):Option (((List (List UInt8×List UInt8))×aO)) :=
 (eO mK x18 s15 ops qd).bind λ(x20:Bool)=>cond x20 (some (s15.2.1,(⟨5,([]:List UInt8)⟩:aO))) (cond (mK.Kind==2) (some ((kY s15.2.1 mK.Key (mK.Value:List UInt8)),(⟨0,([]:List UInt8)⟩:aO))) (cond (!x18.2) (some (s15.2.1,(⟨4,([]:List UInt8)⟩:aO))) (cond (mK.Kind==1) (some (s15.2.1,(⟨0,x18.1⟩:aO))) (cond (mK.Kind==3) (some ((mq s15.2.1 mK.Key),(⟨0,([]:List UInt8)⟩:aO))) (cond (!(x18.1==mK.Old)) (some (s15.2.1,(⟨6,x18.1⟩:aO))) (some ((kY s15.2.1 mK.Key (mK.Value:List UInt8)),(⟨0,([]:List UInt8)⟩:aO))))))))
theorem oK(d:Nat){mK:aX}{x18:List UInt8×Bool}{s15:Int×(List (List UInt8×List UInt8))×List aA}{ops:List bV}{qd:aO×List aA}{r:((List (List UInt8×List UInt8))×aO)}(h:dR mK x18 s15 ops qd=some r):kZ (bP (bB bG (d+0)) KK 153 lC) 0 (ou mK x18 s15 ops qd) (nI mK x18 s15 ops qd r):=by
 unfold dR at h
 exact iK nB qc h (.bd λx20 Ux=>Jn [3,4,7,8,9,10,11,19,20,21] [none,none,none,none,none,none,none,none,none,none] [] [.undef,.undef,.undef,.undef,.undef,.undef,.undef,.slice none 8 0 0 true,.undef,.undef] (oJ (d+0) Ux)<|.br 49 (λ_=>.st none<|E1 [3,4,10,11,19,20,21] [none,none,none,none,none,none,none] [] [.undef,.undef,.undef,.undef,.slice none 8 0 0 true,.undef,.undef]) λ_=>.br 63 (λ_=>.mp (gq (kY s15.2.1 mK.Key (mK.Value:List UInt8)))<|.ob (OX Kn lZ _ _ _:zM .s (.str mK.Key) (lZ (mK.Value:List UInt8)) (gq s15.2.1)=some (gq (kY s15.2.1 mK.Key (mK.Value:List UInt8))))<|E1 [3,4,10,11,19,20,21] [none,none,none,none,none,none,none] [] [.undef,.undef,.undef,.undef,.slice none 8 0 0 true,.undef,.undef]) λ_=>.br 72 (λ_=>.st none<|E1 [3,4,10,11,19,20,21] [none,none,none,none,none,none,none] [] [.undef,.undef,.undef,.undef,.slice none 8 0 0 true,.undef,.undef]) λ_=>.br 76 (λ_=>.st none<|E1 [3,4,10,11,19,20,21] [none,none,none,none,none,none,none] [] [.undef,.undef,.undef,.undef,.slice none 8 0 0 true,.undef,.undef]) λ_=>.br 82 (λ_=>.mp (gq (mq s15.2.1 mK.Key))<|.ob (QT Kn lZ _ _:Ej .s (.str mK.Key) (gq s15.2.1)=some (gq (mq s15.2.1 mK.Key)))<|E1 [3,4,10,11,19,20,21] [none,none,none,none,none,none,none] [] [.undef,.undef,.undef,.undef,.slice none 8 0 0 true,.undef,.undef]) λ_=>.br 89 (λ_=>.st none<|E1 [3,4,10,11,19,20,21] [none,none,none,none,none,none,none] [] [.undef,.undef,.undef,.undef,.slice none 8 0 0 true,.undef,.undef]) λ_=>.mp (gq (kY s15.2.1 mK.Key (mK.Value:List UInt8)))<|.ob (OX Kn lZ _ _ _:zM .s (.str mK.Key) (lZ (mK.Value:List UInt8)) (gq s15.2.1)=some (gq (kY s15.2.1 mK.Key (mK.Value:List UInt8))))<|E1 [3,4,10,11,19,20,21] [none,none,none,none,none,none,none] [] [.undef,.undef,.undef,.undef,.slice none 8 0 0 true,.undef,.undef])
def dV(ops:List bV)(s15:Int×(List (List UInt8×List UInt8))×List aA):List AV×WH:=([(.ptr (some (0,0))),(.map (some 1)),(jU ops),(.int .i64 (ops.length:Int)),(.int .i64 s15.1)],[(some (.cells [(.acc 2 0 2 s15.2.2.length true)] false false)),(some (.map (gq s15.2.1))),(some (.cells (aH s15.2.2) false true))])
def fI(ops:List bV):Unit⊕((List (List UInt8×List UInt8))×List aA)→Ex×Fast×WH:=fun
 |.inl e=>(.ret,[(2,(.bool false))],[])
 |.inr e=>((.exit 0),[(3,(.ptr (some (0,0)))),(4,(.map (some 1)))],[(some (.cells [(.acc 2 0 2 e.2.length true)] false false)),(some (.map (gq e.1))),(some (.cells (aH e.2) false true))])
abbrev ow(ops:List bV):=qb [3,4,19,20,21] (dV ops) (fI ops)
def dM(ops:List bV)(s15:Int×(List (List UInt8×List UInt8))×List aA):Option ((Int×(List (List UInt8×List UInt8))×List aA)⊕(Unit⊕((List (List UInt8×List UInt8))×List aA))) :=
 cond (decide (s15.1<(ops.length:Int))) ((iY ops s15.1).bind λ(Ol:bV)=>(uq Ol.Kind Ol.Key Ol.Value Ol.Old).bind λ(mK:aX)=>(some ((f_ s15.2.1 mK.Key).getD (([]:List UInt8):List UInt8),(f_ s15.2.1 mK.Key).isSome)).bind λ(x18:List UInt8×Bool)=>(eu mK s15.2.2).bind λ(qd:aO×List aA)=>(dR mK x18 s15 ops qd).bind λ(x21:((List (List UInt8×List UInt8))×aO))=>cond (!(qd.1.Why==x21.2.Why&&(qd.1.Value==x21.2.Value&&true))) (some (.inr (.inl ()))) ((iJ qd.2).bind λ(TG:Int)=>cond (TG != (x21.1.length:Int)) (some (.inr (.inl ()))) (some (.inl ((IntKind.i64.wrap (s15.1+1)),x21.1,qd.2))))) (some (.inr (.inr (s15.2.1,s15.2.2))))
def g_(ops:List bV)(s15:Int×(List (List UInt8×List UInt8))×List aA):Option (Unit⊕((List (List UInt8×List UInt8))×List aA)):=mo (dM ops) KK s15
theorem oL(d:Nat){ops:List bV}{s15:Int×(List (List UInt8×List UInt8))×List aA}{r:(Int×(List (List UInt8×List UInt8))×List aA)⊕(Unit⊕((List (List UInt8×List UInt8))×List aA))}(h:dM ops s15=some r):kZ (bP (bB bG (d+6)) KK 153 KH) 0 (Jc [3,4,19,20,21] (dV ops s15)) (ow ops r):=by
 unfold dM at h
 exact iK nB KI h (.br 22 (λ_=>.bd λOl q16=>Ix Ac 23 q16<|.st none<|.bd λmK Rz=>uQ (Ib (d+3) Rz)<|.st none<|.bd λx18 SB=>.v 38 (.tuple [(.str x18.1),(.bool x18.2)])<|.ob (QS Kn lZ SB:BG .s true (lZ (([]:List UInt8):List UInt8)) (.str mK.Key) (gq s15.2.1)=some (.tuple [(.str x18.1),(.bool x18.2)]))<|.bd λqd RA=>EM (jV (d+0) RA)<|.st none<|.st none<|.bd λx21 Uy=>Jn [3,4,7,8,9,10,11,19,20,21] [none,none,none,none,none,none,none,none,none,none] [] [.undef,.undef,.undef,.undef,.undef,.undef,.undef,.slice none 8 0 0 true,.undef,.undef] (oK (d+6) Uy)<|.br 99 (λ_=>E0 [2]) λ_=>.bd λTG q22=>EM (pQ (d+5) q22)<|.v 102 (.int .i64 (x21.1.length:Int))<|.ob (Ko _ _ _:@Eq (Option AV) (some (.int .i64 (gq x21.1).length)) (some (.int .i64 (x21.1.length:Int))))<|.br 104 (λ_=>E0 [2]) λ_=>E1 [3,4,19,20,21] [none,none,none,none,none] [] [.undef,.undef,.slice none 8 0 0 true,.undef,.undef]) λ_=>E0 [3,4])
theorem jA(d:Nat){ops:List bV}{s15:Int×(List (List UInt8×List UInt8))×List aA}{r:Unit⊕((List (List UInt8×List UInt8))×List aA)}(h:g_ ops s15=some r):kZ (nT (bP (bB bG (d+6)) KK 153 KH) [3,4,19,20,21] KK) 0 (Jc [3,4,19,20,21] (dV ops s15)) (fI ops r) :=
 qM (st:=dV ops) (fin:=fI ops) (step:=dM ops) (λe=>by rcases e with e | e<;>(intro h;cases h)) (λs x h=>oL d h) KK s15 r h
def dW(x25:List aA)(x23:Unit⊕((List (List UInt8×List UInt8))×List aA))(Fh:Int):List AV×WH:=([(.map (some 0)),(dx x25),(dx x25),(.int .i64 (x25.length:Int)),(.int .i64 Fh)],[(some (.map (gq (uP x23).1)))])
def fJ(x25:List aA)(x23:Unit⊕((List (List UInt8×List UInt8))×List aA)):Unit⊕Unit→Ex×Fast×WH:=fun
 |.inl e=>(.ret,[(2,(.bool false))],[])
 |.inr e=>((.exit 3),[(4,(.map (some 0))),(12,(dx x25))],[(some (.map (gq (uP x23).1)))])
abbrev oz(x25:List aA)(x23:Unit⊕((List (List UInt8×List UInt8))×List aA)):=qb [4,12,107,108,109] (dW x25 x23) (fJ x25 x23)
def dh(x25:List aA)(x23:Unit⊕((List (List UInt8×List UInt8))×List aA))(Fh:Int):Option ((Int)⊕(Unit⊕Unit)) :=
 cond (decide (Fh<(x25.length:Int))) ((iY x25 Fh).bind λ(x30:aA)=>(some ((f_ (uP x23).1 x30.Key).getD (([]:List UInt8):List UInt8),(f_ (uP x23).1 x30.Key).isSome)).bind λ(x31:List UInt8×Bool)=>cond (!x31.2) (some (.inr (.inl ()))) (cond (!(x31.1==x30.Value)) (some (.inr (.inl ()))) (cond (decide (Fh>0)) ((iY x25 (IntKind.i64.wrap (Fh-1))).bind λ(x32:aA)=>cond (!(Op.bytesLess x32.Key x30.Key)) (some (.inr (.inl ()))) (some (.inl (IntKind.i64.wrap (Fh+1))))) (some (.inl (IntKind.i64.wrap (Fh+1))))))) (some (.inr (.inr ())))
def eP(x25:List aA)(x23:Unit⊕((List (List UInt8×List UInt8))×List aA))(Fh:Int):Option (Unit⊕Unit):=mo (dh x25 x23) KK Fh
theorem oM(d:Nat){x25:List aA}{x23:Unit⊕((List (List UInt8×List UInt8))×List aA)}{Fh:Int}{r:(Int)⊕(Unit⊕Unit)}(h:dh x25 x23 Fh=some r):kZ (bP (bB bG (d+0)) KK 153 KJ) 0 (Jc [4,12,107,108,109] (dW x25 x23 Fh)) (oz x25 x23 r):=by
 unfold dh at h
 exact iK nB KL h (.br 110 (λ_=>.bd λx30 Uz=>Ix aT 112 Uz<|.st none<|.bd λx31 UA=>.v 118 (.tuple [(.str x31.1),(.bool x31.2)])<|.ob (QS Kn lZ UA:BG .s true (lZ (([]:List UInt8):List UInt8)) (.str x30.Key) (gq (uP x23).1)=some (.tuple [(.str x31.1),(.bool x31.2)]))<|.br 123 (λ_=>E0 [2]) λ_=>.br 129 (λ_=>E0 [2]) λ_=>.br 132 (λ_=>.bd λx32 q32=>Ix aT 136 q32<|.br 143 (λ_=>E0 [2]) λ_=>E1 [4,12,107,108,109] [none,none,none,none,none] [] [.undef,.slice none 2 0 0 true,.slice none 2 0 0 true,.undef,.undef]) λ_=>E1 [4,12,107,108,109] [none,none,none,none,none] [] [.undef,.slice none 2 0 0 true,.slice none 2 0 0 true,.undef,.undef]) λ_=>E1 [4,12] [none,none] [] [.undef,.slice none 2 0 0 true])
theorem jB(d:Nat){x25:List aA}{x23:Unit⊕((List (List UInt8×List UInt8))×List aA)}{Fh:Int}{r:Unit⊕Unit}(h:eP x25 x23 Fh=some r):kZ (nT (bP (bB bG (d+0)) KK 153 KJ) [4,12,107,108,109] KK) 0 (Jc [4,12,107,108,109] (dW x25 x23 Fh)) (fJ x25 x23 r) :=
 qM (st:=dW x25 x23) (fin:=fJ x25 x23) (step:=dh x25 x23) (λe=>by rcases e with e | e<;>(intro h;cases h)) (λs x h=>oM d h) KK Fh r h
def gM(ops:List bV):Option (Bool) :=
 (g_ ops (0,([]:List (List UInt8×List UInt8)),[])).bind λ(x23:Unit⊕((List (List UInt8×List UInt8))×List aA))=>cond (yY x23) (some false) ((gL (uP x23).2).bind λ(x25:List aA)=>(eP x25 x23 0).bind λ(TH:Unit⊕Unit)=>cond (yY TH) (some false) ((iO).bind λ(TI:Bool)=>cond TI (some ((x25.length:Int)==((uP x23).1.length:Int))) (some false)))
def jL(ops:List bV)(r:Bool):AV×WH:=((.bool r),[])
theorem qQ(d:Nat){ops:List bV}{r:Bool}(h:gM ops=some r):Spec (bB bG (d+8)) 9 [(jU ops)] [] (jL ops r).1 (jL ops r).2:=by
 unfold gM at h
 exact dA nB Ut h (.z 17 [.agg [.slice none 2 0 0 true]]<|.z 3 [.slice none 2 0 0 true]<|.st none<|.bd λx23 TJ=>.ite (λQb=>Lp [none,none,none,none,none] [Tw,Tw,Tw] [.undef,.undef,.slice none 8 0 0 true,.undef,.undef] (Jd (il Qb) (jA (d+1) TJ))<|Fn Fo [] none) λQb=>Lp [none,none,none,none,none] [Tw,Tw,Tw] [.undef,.undef,.slice none 8 0 0 true,.undef,.undef] (Jd (Qp Qb) (jA (d+1) TJ))<|.bd λx25 UC=>EM (tN (d+5) UC)<|.bd λTH TK=>.ite (λQc=>Lp [none,none,none,none,none] [] [.undef,.slice none 2 0 0 true,.slice none 2 0 0 true,.undef,.undef] (Jd (il Qc) (jB (d+7) TK))<|Fn Fo [] none) λQc=>Lp [none,none,none,none,none] [] [.undef,.slice none 2 0 0 true,.slice none 2 0 0 true,.undef,.undef] (Jd (Qp Qc) (jB (d+7) TK))<|.bd λTI UD=>uQ (tO (d+0) UD)<|.br 146 (λ_=>.v 150 (.int .i64 ((uP x23).1.length:Int))<|.ob (Ko _ _ _:@Eq (Option AV) (some (.int .i64 (gq (uP x23).1).length)) (some (.int .i64 ((uP x23).1.length:Int))))<|Fn Fo [] none) λ_=>Fn Fo [] none)
def kU(p:List aA)(s5:Int×List aA):List AV×WH:=([(.ptr (some (0,0))),(.ptr (some (1,0))),(dx p),(.int .i64 (p.length:Int)),(.int .i64 s5.1)],[(some (.cells [(.acc 2 0 2 0 true)] false false)),(some (.cells [(.acc 3 0 2 s5.2.length true)] false false)),(some (.cells (aH []) false true)),(some (.cells (aH s5.2) false true))])
def mY(p:List aA):(List aA)→Ex×Fast×WH:=λe=>((.exit 0),[(2,(.ptr (some (0,0)))),(3,(.ptr (some (1,0))))],[(some (.cells [(.acc 2 0 2 0 true)] false false)),(some (.cells [(.acc 3 0 2 e.length true)] false false)),(some (.cells (aH []) false true)),(some (.cells (aH e) false true))])
abbrev Ap(p:List aA):=qb [2,3,6,7,8] (kU p) (mY p)
def l5(p:List aA)(s5:Int×List aA):Option ((Int×List aA)⊕((List aA))) :=
 cond (decide (s5.1<(p.length:Int))) ((iY p s5.1).bind λ(x6:aA)=>(eu (⟨2,x6.Key,x6.Value,([]:List UInt8)⟩:aX) s5.2).bind λ(x7:aO×List aA)=>some (.inl ((IntKind.i64.wrap (s5.1+1)),x7.2))) (some (.inr s5.2))
def yH(p:List aA)(s5:Int×List aA):Option ((List aA)):=mo (l5 p) KK s5
theorem Bb(d:Nat){p:List aA}{s5:Int×List aA}{r:(Int×List aA)⊕((List aA))}(h:l5 p s5=some r):kZ (bP (bB bG (d+6)) KK 20 Gt) 0 (Jc [2,3,6,7,8] (kU p s5)) (Ap p r):=by
 unfold l5 at h
 exact iK nB I7 h (.br 9 (λ_=>.bd λx6 q6=>Ix aT 10 q6<|.st none<|.bd λx7 q7=>EM (jV (d+0) q7)<|E1 [2,3,6,7,8] [none,none,none,none,none] [] [.undef,.undef,.slice none 2 0 0 true,.undef,.undef]) λ_=>E0 [2,3])
theorem Bc(d:Nat){p:List aA}{s5:Int×List aA}{r:(List aA)}(h:yH p s5=some r):kZ (nT (bP (bB bG (d+6)) KK 20 Gt) [2,3,6,7,8] KK) 0 (Jc [2,3,6,7,8] (kU p s5)) (mY p r) :=
 qM (st:=kU p) (fin:=mY p) (step:=l5 p) (λe=>by(intro h;cases h)) (λs x h=>Bb d h) KK s5 r h
def Fj(p:List aA):Option (iZ) :=
 (yH p (0,[])).bind λ(x8:(List aA))=>some (⟨x8⟩:iZ)
def wI(p:List aA)(r:iZ):AV×WH:=((.agg (AZ r)),[])
theorem Qd(d:Nat){p:List aA}{r:iZ}(h:Fj p=some r):Spec (bB bG (d+7)) 52 [(dx p)] [] (wI p r).1 (wI p r).2:=by
 unfold Fj at h
 exact dA nB Sr h (.z 2 [.slice none 2 0 0 true]<|.z 3 [.slice none 2 0 0 true]<|.bd λx8 q8=>Lp [none,none,none,none,none] [Tw,Tw,Tw,Tw] [.undef,.undef,.slice none 2 0 0 true,.undef,.undef] (Bc (d+0) q8)<|.st none<|Fn Fo [.agg [.slice none 2 0 0 true]] none)
abbrev xV(o:aX):Fast×WH:=([(1,(.ptr (some (0,0))))],[(some (.cells (bS o) false false))])
def wJ(o:aX):Unit⊕Unit→Ex×Fast×WH:=fun
 |.inl e=>(.ret,[(2,(.bool false))],[])
 |.inr e=>(.normal,[(1,(.ptr (some (0,0))))],[(some (.cells (bS o) false false))])
def qg(o:aX):Option (Unit⊕Unit) :=
 cond (decide (o.Kind<1)) (some (.inl ())) (cond (decide (o.Kind>4)) (some (.inl ())) (cond (decide ((o.Key.length:Int)<1)) (some (.inl ())) (cond (decide ((o.Key.length:Int)>8)) (some (.inl ())) (cond (decide ((o.Value.length:Int)>16)) (some (.inl ())) (cond (decide ((o.Old.length:Int)>16)) (some (.inl ())) (some (.inr ())))))))
theorem rA(d:Nat){o:aX}{r:Unit⊕Unit}(h:qg o=some r):kZ (bP (bB bG (d+0)) KK 58 E8) 0 (xV o) (wJ o r):=by
 unfold qg at h
 exact iK nB E9 h (.br 6 (λ_=>E0 [2]) λ_=>.br 11 (λ_=>E0 [2]) λ_=>.br 17 (λ_=>E0 [2]) λ_=>.br 23 (λ_=>E0 [2]) λ_=>.br 29 (λ_=>E0 [2]) λ_=>.br 34 (λ_=>E0 [2]) λ_=>E0 [1])
def uW(o:aX):Option (Bool) :=
 (qg o).bind λ(x1:Unit⊕Unit)=>cond (yY x1) (some false) (cond (o.Value==([]:List UInt8)) (cond (o.Old==([]:List UInt8)) (some true) (some (o.Kind==4))) (cond (o.Kind==2) (cond (o.Old==([]:List UInt8)) (some true) (some (o.Kind==4))) (cond (o.Kind==4) (cond (o.Old==([]:List UInt8)) (some true) (some (o.Kind==4))) (some false))))
def sI(o:aX)(r:Bool):AV×WH:=((.bool r),[])
theorem Du(d:Nat){o:aX}{r:Bool}(h:uW o=some r):Spec (bB bG (d+1)) 128 [(.agg (bS o))] [] (sI o r).1 (sI o r).2:=by
 unfold uW at h
 exact dA nB Rj h (.sk<|.bd λx1 q1=>.ite (λhb2=>Jn [1] [none] [] [] (Jd (il hb2) (rA (d+0) q1))<|Fn Fo [] none) λhb2=>Jn [1] [none] [] [] (Jd (Qp hb2) (rA (d+0) q1))<|.br 38 (λ_=>.br 52 (λ_=>Fn Fo [] none) λ_=>Fn Fo [] none) λ_=>.br 43 (λ_=>.br 52 (λ_=>Fn Fo [] none) λ_=>Fn Fo [] none) λ_=>.br 48 (λ_=>.br 52 (λ_=>Fn Fo [] none) λ_=>Fn Fo [] none) λ_=>Fn Fo [] none)
def fV(aU:List aA)(key:List UInt8)(s3:Int):List AV×WH:=([(.ptr (some (0,0))),(.str key),(.int .i64 s3)],[(some (.cells [(.acc 1 0 2 aU.length true)] false false)),(some (.cells (aH aU) false true))])
def iE(aU:List aA)(key:List UInt8):(Int×Bool)⊕Unit→Ex×Fast×WH:=fun
 |.inl e=>(.ret,[(4,(.int .i64 e.1)),(5,(.bool e.2))],[(some (.cells [(.acc 1 0 2 aU.length true)] false false)),(some (.cells (aH aU) false true))])
 |.inr e=>((.exit 0),[(0,(.ptr (some (0,0))))],[(some (.cells [(.acc 1 0 2 aU.length true)] false false)),(some (.cells (aH aU) false true))])
abbrev rG(aU:List aA)(key:List UInt8):=qb [0,1,6] (fV aU key) (iE aU key)
def gN(aU:List aA)(key:List UInt8)(s3:Int):Option ((Int)⊕((Int×Bool)⊕Unit)) :=
 cond (decide (s3<(aU.length:Int))) ((iY aU s3).bind λ(x4:aA)=>cond (!(Op.bytesLess x4.Key key)) ((iY aU s3).bind λ(x5:aA)=>some (.inr (.inl (s3,(x5.Key==key))))) (some (.inl (IntKind.i64.wrap (s3+1))))) (some (.inr (.inr ())))
def oF(aU:List aA)(key:List UInt8)(s3:Int):Option ((Int×Bool)⊕Unit):=mo (gN aU key) KK s3
theorem sJ(d:Nat){aU:List aA}{key:List UInt8}{s3:Int}{r:(Int)⊕((Int×Bool)⊕Unit)}(h:gN aU key s3=some r):kZ (bP (bB bG (d+0)) KK 42 Dp) 2 (Jc [0,1,6] (fV aU key s3)) (rG aU key r):=by
 unfold gN at h
 exact iK nB Gx h (.br 13 (λ_=>.bd λx4 q4=>Ia aT 21 1 q4<|Ld aT 23 false 1 0 q4 (.str x4.Key) rfl<|.br 25 (λ_=>.bd λx5 q5=>Ia aT 32 1 q5<|Ld aT 34 false 1 0 q5 (.str x5.Key) rfl<|E0 [4,5]) λ_=>E0 [0,1,6]) λ_=>E0 [0])
theorem mM(d:Nat){aU:List aA}{key:List UInt8}{s3:Int}{r:(Int×Bool)⊕Unit}(h:oF aU key s3=some r):kZ (nT (bP (bB bG (d+0)) KK 42 Dp) [0,1,6] KK) 2 (Jc [0,1,6] (fV aU key s3)) (iE aU key r) :=
 qM (st:=fV aU key) (fin:=iE aU key) (step:=gN aU key) (λe=>by rcases e with e | e<;>(intro h;cases h)) (λs x h=>sJ d h) KK s3 r h
def mZ(key:List UInt8)(aU:List aA):Option (Int×Bool) :=
 (oF aU key 0).bind λ(x6:(Int×Bool)⊕Unit)=>cond (yY x6) (some ((Kr x6).1,(Kr x6).2)) (some ((aU.length:Int),false))
def nC(key:List UInt8)(aU:List aA)(r:Int×Bool):AV×WH:=((.tuple [(.int .i64 r.1),(.bool r.2)]),[(some (.cells [(.acc 1 0 2 aU.length true)] false false)),(some (.cells (aH aU) false true))])
theorem wM(d:Nat){key:List UInt8}{aU:List aA}{r:Int×Bool}(h:mZ key aU=some r):Spec (bB bG (d+1)) 129 [(.ptr (some (0,0))),(.str key)] [(some (.cells [(.acc 1 0 2 aU.length true)] false false)),(some (.cells (aH aU) false true))] (nC key aU r).1 (nC key aU r).2:=by
 unfold mZ at h
 exact dA nB Rk h (.bd λx6 q6=>.ite (λSC=>Lp [none,none,none] [] [] (Jd (il SC) (mM (d+0) q6))<|Fn Fo [] none) λSC=>Lp [none,none,none] [] [] (Jd (Qp SC) (mM (d+0) q6))<|Fn Fo [] none)
abbrev tQ(x2:Int×Bool)(aU:List aA)(o:aX):Fast×WH:=([(0,(.ptr (some (0,0)))),(3,(.ptr (some (2,0)))),(4,(.ptr (some (3,0)))),(5,(.int .i64 x2.1)),(6,(.bool x2.2))],[(some (.cells [(.acc 1 0 2 aU.length true)] false false)),(some (.cells (aH aU) false true)),(some (.cells (bS o) false false)),(some (.cells (bI (⟨0,([]:List UInt8)⟩:aO)) false false))])
def sK(x2:Int×Bool)(aU:List aA)(o:aX):Unit⊕Unit→Ex×Fast×WH:=fun
 |.inl e=>(.ret,[(4,(.ptr (some (2,0))))],[(some (.cells [(.acc 1 0 2 aU.length true)] false false)),(some (.cells (aH aU) false true)),(some (.cells (bI (⟨5,([]:List UInt8)⟩:aO)) false false))])
 |.inr e=>(.normal,[(0,(.ptr (some (0,0)))),(3,(.ptr (some (2,0)))),(4,(.ptr (some (3,0)))),(5,(.int .i64 x2.1)),(6,(.bool x2.2))],[(some (.cells [(.acc 1 0 2 aU.length true)] false false)),(some (.cells (aH aU) false true)),(some (.cells (bS o) false false)),(some (.cells (bI (⟨0,([]:List UInt8)⟩:aO)) false false))])
def lS(x2:Int×Bool)(aU:List aA)(o:aX):Option (Unit⊕Unit) :=
 cond (!x2.2) (cond (decide ((aU.length:Int)≥8)) (some (.inl ())) (some (.inr ()))) (some (.inr ()))
theorem oG(d:Nat){x2:Int×Bool}{aU:List aA}{o:aX}{r:Unit⊕Unit}(h:lS x2 aU o=some r):kZ (bP (bB bG (d+0)) KK 147 pO) 2 (tQ x2 aU o) (sK x2 aU o r):=by
 unfold lS at h
 exact iK nB sF h (.br 40 (λ_=>.br 47 (λ_=>.st none<|E0 [4]) λ_=>E0 [0,3,4,5,6]) λ_=>E0 [0,3,4,5,6])
abbrev tT(x2:Int×Bool)(x6:List aA)(o:aX)(aU:List aA):Fast×WH:=([(0,(.ptr (some (0,0)))),(4,(.ptr (some (2,0)))),(5,(.int .i64 x2.1)),(6,(.bool x2.2)),(7,(.acc 3 0 2 (x6++[(⟨o.Key,o.Value⟩:aA)]).length true))],[(some (.cells [(.acc 1 0 2 aU.length true)] false false)),(some (.cells (aH aU) false true)),(some (.cells (bI (⟨0,([]:List UInt8)⟩:aO)) false false)),(some (.cells (aH (x6++[(⟨o.Key,o.Value⟩:aA)])) false true))])
def sM(x2:Int×Bool)(x6:List aA)(o:aX)(aU:List aA):Int→Ex×Fast×WH:=λe=>(.normal,[(0,(.ptr (some (0,0)))),(4,(.ptr (some (2,0)))),(5,(.int .i64 e)),(7,(.acc 3 0 2 (x6++[(⟨o.Key,o.Value⟩:aA)]).length true))],[(some (.cells [(.acc 1 0 2 aU.length true)] false false)),(some (.cells (aH aU) false true)),(some (.cells (bI (⟨0,([]:List UInt8)⟩:aO)) false false)),(some (.cells (aH (x6++[(⟨o.Key,o.Value⟩:aA)])) false true))])
def lT(x2:Int×Bool)(x6:List aA)(o:aX)(aU:List aA):Option (Int) :=
 cond x2.2 (some (IntKind.i64.wrap (x2.1+1))) (some x2.1)
theorem uX(d:Nat){x2:Int×Bool}{x6:List aA}{o:aX}{aU:List aA}{r:Int}(h:lT x2 x6 o aU=some r):kZ (bP (bB bG (d+0)) KK 147 mF) 2 (tT x2 x6 o aU) (sM x2 x6 o aU r):=by
 unfold lT at h
 exact iK nB qA h (.br 65 (λ_=>E1 [0,4,5,7] [none,none,none,none] [] [.undef,.undef,.undef,.slice none 2 0 0 true]) λ_=>E1 [0,4,5,7] [none,none,none,none] [] [.undef,.undef,.undef,.slice none 2 0 0 true])
def qh(o:aX)(aU:List aA):Option (aO×List aA) :=
 (uW o).bind λ(x1:Bool)=>cond (!x1) (some ((⟨1,([]:List UInt8)⟩:aO),aU)) ((mZ o.Key aU).bind λ(x2:Int×Bool)=>cond (o.Kind==1) (cond (!x2.2) (some ((⟨4,([]:List UInt8)⟩:aO),aU)) ((iY aU x2.1).bind λ(x3:aA)=>some ((⟨0,x3.Value⟩:aO),aU))) (cond (o.Kind==2) ((lS x2 aU o).bind λ(x4:Unit⊕Unit)=>cond (yY x4) (some ((⟨5,([]:List UInt8)⟩:aO),aU)) ((IV aU 0 x2.1).bind λ(x6:List aA)=>gd (fZ 32 x6.length) (gd (fZ 32 (x6++[(⟨o.Key,o.Value⟩:aA)]).length) ((lT x2 x6 o aU).bind λ(x9:Int)=>(IV aU x9 aU.length).bind λ(x10:List aA)=>gd (fZ 32 ((x6++[(⟨o.Key,o.Value⟩:aA)])++x10).length) (some ((⟨0,([]:List UInt8)⟩:aO),((x6++[(⟨o.Key,o.Value⟩:aA)])++x10))))))) (cond (o.Kind==3) (cond (!x2.2) (some ((⟨4,([]:List UInt8)⟩:aO),aU)) ((IV aU 0 x2.1).bind λ(Dw:List aA)=>gd (fZ 32 Dw.length) ((IV aU (IntKind.i64.wrap (x2.1+1)) aU.length).bind λ(LP:List aA)=>gd (fZ 32 (Dw++LP).length) (some ((⟨0,([]:List UInt8)⟩:aO),(Dw++LP)))))) (cond (!x2.2) (some ((⟨4,([]:List UInt8)⟩:aO),aU)) ((iY aU x2.1).bind λ(Ol:aA)=>cond (!(Ol.Value==o.Old)) ((iY aU x2.1).bind λ(mK:aA)=>some ((⟨6,mK.Value⟩:aO),aU)) (gd (fZ 32 aU.length) ((iY aU x2.1).bind λ(qd:aA)=>some ((⟨0,([]:List UInt8)⟩:aO),(aU.set x2.1.toNat (⟨qd.Key,o.Value⟩:aA))))))))))
def eT(o:aX)(aU:List aA)(r:aO×List aA):AV×WH:=((.agg (bI r.1)),[(some (.cells [(.acc 2 0 2 r.2.length true)] false false)),none,(some (.cells (aH r.2) false true))])
theorem yR(d:Nat){o:aX}{aU:List aA}{r:aO×List aA}(h:qh o aU=some r):Spec (bB bG (d+2)) 118 [(.ptr (some (0,0))),(.agg (bS o))] [(some (.cells [(.acc 1 0 2 aU.length true)] false false)),(some (.cells (aH aU) false true))] (eT o aU r).1 (eT o aU r).2:=by
 unfold qh at h
 exact dA nB Rh h (.bd λx1 q1=>uQ (Du (d+0) q1)<|.br 11 (λ_=>.st none<|Fn Fo [] Tw) λ_=>.bd λx2 q2=>EM (wM (d+0) q2)<|.br 22 (λ_=>.br 25 (λ_=>.st none<|Fn Fo [] Tw) λ_=>.bd λx3 q3=>Ia aT 32 1 q3<|Ld aT 34 false 1 1 q3 (.str x3.Value) rfl<|.st none<|Fn Fo [] Tw) λ_=>.br 36 (λ_=>.bd λx4 q4=>.ite (λhb5=>Jn [0,3,4,5,6] [none,none,none,none,none] [] [] (Jd (il hb5) (oG (d+1) q4))<|Fn Fo [] Tw) λhb5=>Jn [0,3,4,5,6] [none,none,none,none,none] [] [] (Jd (Qp hb5) (oG (d+1) q4))<|.bd λx6 q6=>.v 55 (.acc 1 0 2 x6.length false)<|.ob (EK aT q6:wP (.slice 2 (.c (.acc 1 0 2 aU.length true)) none (some (.c (.int .i64 x2.1))) none)=some (.acc 1 0 2 x6.length false))<|.gd λq7=>.ap 56 x6.length (aH x6)<|.ob (by(try rw[iI aT q6]);(try rw[fP aT q6]);simp:0+x6.length=x6.length)<|.ob (by(try rw[iI aT q6]);(try rw[fP aT q6]);first | rfl | simp[aH]:aH []++((aH aU).drop (0)).take (x6.length*2)=aH x6)<|.ob q7<|.gd λq8=>.ap 64 (x6++[(⟨o.Key,o.Value⟩:aA)]).length (aH (x6++[(⟨o.Key,o.Value⟩:aA)]))<|.ob (by(try rw[iI aT q6]);(try rw[fP aT q6]);simp:x6.length+1=(x6++[(⟨o.Key,o.Value⟩:aA)]).length)<|.ob (by(try rw[iI aT q6]);(try rw[fP aT q6]);exact(Row.app aT _ _).symm:aH x6++aH ([(⟨o.Key,o.Value⟩:aA)])=aH (x6++[(⟨o.Key,o.Value⟩:aA)]))<|.ob q8<|.bd λx9 q9=>Jn [0,4,5,6,7] [none,none,none,none,none] [] [.undef,.undef,.undef,.undef,.slice none 2 0 0 true] (uX (d+1) q9)<|.bd λx10 O6=>.v 75 (.acc 1 (0+x9.toNat*2) 2 x10.length false)<|.ob (by(try rw[iI aT q6]);(try rw[fP aT q6]);exact EJ aT O6:wP (.slice 2 (.c (.acc 1 0 2 aU.length true)) (some (.c (.int .i64 x9))) none none)=some (.acc 1 (0+x9.toNat*2) 2 x10.length false))<|.gd λSE=>.ap 76 ((x6++[(⟨o.Key,o.Value⟩:aA)])++x10).length (aH ((x6++[(⟨o.Key,o.Value⟩:aA)])++x10))<|.ob (by(try rw[iI aT q6]);(try rw[fP aT q6]);(try rw[vZ aT O6]);exact HY _ _:(x6++[(⟨o.Key,o.Value⟩:aA)]).length+x10.length=((x6++[(⟨o.Key,o.Value⟩:aA)])++x10).length)<|.ob (by(try rw[iI aT q6]);(try rw[fP aT q6]);(try rw[vZ aT O6]);exact(Row.app aT _ _).symm:aH (x6++[(⟨o.Key,o.Value⟩:aA)])++((aH aU).drop (0+x9.toNat*2)).take (x10.length*2)=aH ((x6++[(⟨o.Key,o.Value⟩:aA)])++x10))<|.ob SE<|.st none<|.st none<|.kl [1]<|Fn Fo [] Tw) λ_=>.br 80 (λ_=>.br 83 (λ_=>.st none<|Fn Fo [] Tw) λ_=>.bd λDw LQ=>.v 92 (.acc 1 0 2 Dw.length false)<|.ob (EK aT LQ:wP (.slice 2 (.c (.acc 1 0 2 aU.length true)) none (some (.c (.int .i64 x2.1))) none)=some (.acc 1 0 2 Dw.length false))<|.gd λUE=>.ap 93 Dw.length (aH Dw)<|.ob (by(try rw[iI aT LQ]);(try rw[fP aT LQ]);simp:0+Dw.length=Dw.length)<|.ob (by(try rw[iI aT LQ]);(try rw[fP aT LQ]);first | rfl | simp[aH]:aH []++((aH aU).drop (0)).take (Dw.length*2)=aH Dw)<|.ob UE<|.bd λLP SF=>.v 100 (.acc 1 (0+(IntKind.i64.wrap (x2.1+1)).toNat*2) 2 LP.length false)<|.ob (by(try rw[iI aT LQ]);(try rw[fP aT LQ]);exact EJ aT SF:wP (.slice 2 (.c (.acc 1 0 2 aU.length true)) (some (.c (.int .i64 (IntKind.i64.wrap (x2.1+1))))) none none)=some (.acc 1 (0+(IntKind.i64.wrap (x2.1+1)).toNat*2) 2 LP.length false))<|.gd λUF=>.ap 101 (Dw++LP).length (aH (Dw++LP))<|.ob (by(try rw[iI aT LQ]);(try rw[fP aT LQ]);(try rw[vZ aT SF]);exact HY _ _:Dw.length+LP.length=(Dw++LP).length)<|.ob (by(try rw[iI aT LQ]);(try rw[fP aT LQ]);(try rw[vZ aT SF]);exact(Row.app aT _ _).symm:aH Dw++((aH aU).drop (0+(IntKind.i64.wrap (x2.1+1)).toNat*2)).take (LP.length*2)=aH (Dw++LP))<|.ob UF<|.st none<|.st none<|.kl [1]<|Fn Fo [] Tw) λ_=>.br 105 (λ_=>.st none<|Fn Fo [] Tw) λ_=>.bd λOl q16=>Ia aT 115 1 q16<|Ld aT 117 false 1 1 q16 (.str Ol.Value) rfl<|.br 109 (λ_=>.bd λmK Rz=>Ia aT 126 1 Rz<|Ld aT 128 false 1 1 Rz (.str mK.Value) rfl<|.st none<|Fn Fo [] Tw) λ_=>.gd λSB=>Ug aT 135 SB<|.bd λqd RA=>Ia aT 140 5 RA<|.st (some (aH (aU.set x2.1.toNat (⟨qd.Key,o.Value⟩:aA))))<|.ob (Gd (o:=1) aT RA rfl:FB (aH aU) (0+x2.1.toNat*2+1) [(.str o.Value)]=some (aH (aU.set x2.1.toNat (⟨qd.Key,o.Value⟩:aA))))<|.st none<|.st none<|.kl [1]<|.vI (.fin (some false) [] (some true)) _ (λr=>@Eq AV (.agg (bI (⟨0,([]:List UInt8)⟩:aO))) (eT o aU r).1∧@Eq WH [(some (.cells [(.acc 2 0 2 aU.length true)] false false)),none,(some (.cells (aH (aU.set x2.1.toNat (⟨qd.Key,o.Value⟩:aA))) false true))] (eT o aU r).2) (by show _∧_;(try rw[show AV.list 2 aU.length (aH (aU.set x2.1.toNat (⟨qd.Key,o.Value⟩:aA))) false=dx (aU.set x2.1.toNat (⟨qd.Key,o.Value⟩:aA))from by simp only[dx,bO]]);refine⟨?_, ?_⟩<;>first | rfl |(simp only[eT,bO,aG,List.length_replicate,bE,eF,aQ,aM,Nat.add_zero,Nat.zero_add];done) | simp[eT]))
def jr(l:List aA)(s7:Int×List aA):List AV×WH:=([(dx l),(.ptr (some (0,0))),(.ptr (some (1,0))),(.int .i64 s7.1)],[(some (.cells [(.acc 2 0 2 0 true)] false false)),(some (.cells [(.acc 3 0 2 s7.2.length true)] false false)),(some (.cells (aH []) false true)),(some (.cells (aH s7.2) false true))])
def kV(l:List aA):(List aA)→Ex×Fast×WH:=λe=>((.exit 0),[(2,(.ptr (some (0,0)))),(3,(.ptr (some (1,0))))],[(some (.cells [(.acc 2 0 2 0 true)] false false)),(some (.cells [(.acc 3 0 2 e.length true)] false false)),(some (.cells (aH []) false true)),(some (.cells (aH e) false true))])
abbrev xW(l:List aA):=qb [0,2,3,4] (jr l) (kV l)
def jO(l:List aA)(s7:Int×List aA):Option ((Int×List aA)⊕((List aA))) :=
 cond (decide (s7.1<(l.length:Int))) ((iY l s7.1).bind λ(x8:aA)=>(iY l s7.1).bind λ(x9:aA)=>(qh (⟨2,x8.Key,x9.Value,([]:List UInt8)⟩:aX) s7.2).bind λ(x10:aO×List aA)=>some (.inl ((IntKind.i64.wrap (s7.1+1)),x10.2))) (some (.inr s7.2))
def uy(l:List aA)(s7:Int×List aA):Option ((List aA)):=mo (jO l) KK s7
theorem yS(d:Nat){l:List aA}{s7:Int×List aA}{r:(Int×List aA)⊕((List aA))}(h:jO l s7=some r):kZ (bP (bB bG (d+2)) KK 25 Dn) 0 (Jc [0,2,3,4] (jr l s7)) (xW l r):=by
 unfold jO at h
 exact iK nB Gw h (.br 9 (λ_=>.bd λx8 q8=>Ix aT 14 q8<|.bd λx9 q9=>Ix aT 19 q9<|.bd λx10 O6=>EM (yR (d+0) O6)<|E1 [0,2,3,4] [none,none,none,none] [] [.slice none 2 0 0 true,.undef,.undef,.undef]) λ_=>E0 [2,3])
theorem yT(d:Nat){l:List aA}{s7:Int×List aA}{r:(List aA)}(h:uy l s7=some r):kZ (nT (bP (bB bG (d+2)) KK 25 Dn) [0,2,3,4] KK) 0 (Jc [0,2,3,4] (jr l s7)) (kV l r) :=
 qM (st:=jr l) (fin:=kV l) (step:=jO l) (λe=>by(intro h;cases h)) (λs x h=>yS d h) KK s7 r h
def Aq(l:List aA):Option (og) :=
 (uy l (0,[])).bind λ(TL:(List aA))=>some (⟨TL⟩:og)
def sN(l:List aA)(r:og):AV×WH:=((.agg (Gn r)),[])
theorem Om(d:Nat){l:List aA}{r:og}(h:Aq l=some r):Spec (bB bG (d+3)) 114 [(dx l)] [] (sN l r).1 (sN l r).2:=by
 unfold Aq at h
 exact dA nB Rf h (.z 2 [.slice none 2 0 0 true]<|.z 5 [.agg [.slice none 2 0 0 true]]<|.z 3 [.slice none 2 0 0 true]<|.st none<|.bd λTL SE=>Lp [none,none,none,none] [Tw,Tw,Tw,Tw] [.slice none 2 0 0 true,.undef,.undef,.undef] (yT (d+0) SE)<|.st none<|Fn Fo [.agg [.slice none 2 0 0 true]] none)
def zl(Mi:List UInt8)(n:Int):Option (List UInt8) :=
 cond (decide ((Mi.length:Int)>n)) ((IV Mi 0 n).bind λ(x1:List UInt8)=>some x1) (some Mi)
def yI(Mi:List UInt8)(n:Int)(r:List UInt8):AV×WH:=((.str r),[])
theorem Co(d:Nat){Mi:List UInt8}{n:Int}{r:List UInt8}(h:zl Mi n=some r):Spec (bB bG (d+1)) 98 [(.str Mi),(.int .i64 n)] [] (yI Mi n r).1 (yI Mi n r).2:=by
 unfold zl at h
 exact dA nB SA h (.br 8 (λ_=>.bd λx1 q1=>.v 11 (.str x1)<|.ob (Kq q1:wP (.gB (.c (.str Mi)) none (some (.c (.int .i64 n))))=some (.str x1))<|Fn Fo [] none) λ_=>Fn Fo [] none)
def LU(Dx:bV):Option (jN) :=
 (dL Dx.Client 4).bind λ(x1:Int)=>(dL Dx.Seq 9).bind λ(x2:Int)=>(uq Dx.Kind Dx.Key Dx.Value Dx.Old).bind λ(x3:aX)=>(dL Dx.Gj 16).bind λ(x4:Int)=>cond (x4==10) ((zl Dx.Text 12).bind λ(x5:List UInt8)=>some (⟨x1,(IntKind.i64.wrap (1+x2)),(⟨x3.Kind,x5,x3.Value,x3.Old⟩:aX)⟩:jN)) (cond (x4==11) ((zl Dx.Text 20).bind λ(x6:List UInt8)=>some (⟨x1,(IntKind.i64.wrap (1+x2)),(⟨x3.Kind,x3.Key,x6,x3.Old⟩:aX)⟩:jN)) (cond (x4==12) ((dL (IntKind.i64.wrap (Int.tdiv Dx.Gj 16)) 8).bind λ(x7:Int)=>some (⟨x1,(IntKind.i64.wrap (1+x2)),(⟨(IntKind.i64.wrap (x7-1)),x3.Key,x3.Value,x3.Old⟩:aX)⟩:jN)) (cond (x4==13) ((dL (IntKind.i64.wrap (Int.tdiv Dx.Gj 16)) 9).bind λ(x8:Int)=>some (⟨(IntKind.i64.wrap (x8-2)),(IntKind.i64.wrap (1+x2)),x3⟩:jN)) (cond (x4==14) ((Gy (IntKind.i64.wrap (Int.tdiv Dx.Gj 16))).bind λ(x9:Int)=>some (⟨x1,x9,x3⟩:jN)) (cond (x4==15) (some (⟨0,0,(⟨0,([]:List UInt8),([]:List UInt8),([]:List UInt8)⟩:aX)⟩:jN)) (some (⟨x1,(IntKind.i64.wrap (1+x2)),x3⟩:jN)))))))
def Ar(Dx:bV)(r:jN):AV×WH:=((.agg (I4 r)),[])
theorem Rl(d:Nat){Dx:bV}{r:jN}(h:LU Dx=some r):Spec (bB bG (d+4)) 61 [(.agg (n_ Dx))] [] (Ar Dx r).1 (Ar Dx r).2:=by
 unfold LU at h
 exact dA nB Sv h (.bd λx1 q1=>uQ (eG (d+2) q1)<|.bd λx2 q2=>uQ (eG (d+2) q2)<|.bd λx3 q3=>uQ (Ib (d+0) q3)<|.st none<|.bd λx4 q4=>uQ (eG (d+2) q4)<|.br 24 (λ_=>.bd λx5 q5=>uQ (Co (d+2) q5)<|.st none<|.st none<|Fn Fo [] none) λ_=>.br 31 (λ_=>.bd λx6 q6=>uQ (Co (d+2) q6)<|.st none<|.st none<|Fn Fo [] none) λ_=>.br 38 (λ_=>.bd λx7 q7=>uQ (eG (d+2) q7)<|.st none<|.st none<|Fn Fo [] none) λ_=>.br 47 (λ_=>.bd λx8 q8=>uQ (eG (d+2) q8)<|.st none<|.st none<|Fn Fo [] none) λ_=>.br 55 (λ_=>.bd λx9 q9=>uQ (LK (d+1) q9)<|.st none<|.st none<|Fn Fo [] none) λ_=>.br 62 (λ_=>.st none<|.st none<|Fn Fo [] none) λ_=>.st none<|Fn Fo [] none)
theorem wO(n:Int)(m:Nat)(hm:0<m)(hm2:m<1000000000000):∃k:Nat,dL n (m:Int)=some (k:Int)∧k<m:=by
 have h1:=Int.emod_nonneg n (by omega:(m:Int)≠0)
 have h2:=Int.emod_lt_of_pos n (by omega:(0:Int)<(m:Int))
 refine⟨(n%(m:Int)).toNat, ?_,by omega⟩
 rw[Int.toNat_of_nonneg h1]
 unfold dL M9
 rw[if_neg (by omega),aC]
 have e1:=Int.tmod_add_mul_tdiv n m
 by_cases h:0≤n.tmod m
 ·rw[jc (by omega),cond_false]
  congr 1
  have e2:n.tmod m<m:=Int.tmod_lt_of_pos n (by omega)
  have e3:n%m=(n.tmod m)%m:=by
   conv=>lhs;rw[←e1]
   rw[Int.add_mul_emod_self_left]
  rw[e3,Int.emod_eq_of_lt h e2]
 ·have e2:-(m:Int)<n.tmod m:=Int.lt_tmod_of_pos n (by omega)
  rw[jy (by omega),cond_true,pK (by omega) (by omega)]
  congr 1
  have e3:n%m=(n.tmod m+m)%m:=by
   conv=>lhs;rw[←e1]
   rw[Int.add_mul_emod_self_left,Int.add_emod_right]
  rw[e3,Int.emod_eq_of_lt (by omega) (by omega)]


theorem tF:∀a,Op.bytesLess a a=false
 | []=>rfl
 | x::a=>by simp[Op.bytesLess,tF a]
theorem LV(a:List UInt8):Op.bytesLess a []=false:=by cases a<;>rfl
theorem sO:∀a b c,Op.bytesLess a b=true→Op.bytesLess b c=true→Op.bytesLess a c=true
 | a,[],c=>λh=>by rw[LV]at h;cases h
 | a,y::b,[]=>λ_ h=>by rw[LV]at h;cases h
 | [],y::b,z::c=>λ_ _=>rfl
 | x::a,y::b,z::c=>by
  simp only[Op.bytesLess,Bool.or_eq_true,Bool.and_eq_true,decide_eq_true_eq,beq_iff_eq,UInt8.lt_iff_toNat_lt,←UInt8.toNat_inj]
  rintro(h |⟨h,h'⟩) (g |⟨g,g'⟩)
  ·left;omega
  ·left;omega
  ·left;omega
  ·right;exact⟨by omega,sO a b c h' g'⟩
theorem Fp:∀a b,Op.bytesLess a b=false→a≠b→Op.bytesLess b a=true
 | [],[]=>λ_ h=>absurd rfl h
 | [],y::b=>λh=>by cases h
 | x::a,[]=>λ_ _=>rfl
 | x::a,y::b=>by
  intro h hn
  by_cases e:x=y
  ·subst e
   have:Op.bytesLess a b=false:=by
    simpa[Op.bytesLess]using h
   have:=Fp a b this (λq=>hn (by rw[q]))
   simp[Op.bytesLess,this]
  ·have h1:¬x<y:=by
    intro q
    simp[Op.bytesLess,q]at h
   have:y<x:=by
    rw[UInt8.lt_iff_toNat_lt]at *
    rw[←UInt8.toNat_inj]at e
    omega
   simp[Op.bytesLess,this]
theorem Cq(p:aA)(key:List UInt8):d9 p key=some (if Op.bytesLess p.Key key then -1 else if p.Key=key then 0 else 1):=by
 unfold d9 iB cmp_isNaN_string
 simp only[beq_self_eq_true,Bool.not_true,aC,cond_false]
 cases h:Op.bytesLess p.Key key
 ·by_cases e:p.Key=key
  ·rw[if_neg (by simp),if_pos e];simp[e]
  ·rw[if_neg (by simp),if_neg e]
   have:(p.Key==key)=false:=by simpa using e
   simp[this]
 ·simp
def uY(L:List aA):Prop:=(L.map (·.Key)).Pairwise (λa b=>Op.bytesLess a b=true)
def place(L:List aA)(key:List UInt8):Nat:=(L.takeWhile (λp=>Op.bytesLess p.Key key)).length
def mO(L:List aA)(key:List UInt8):Bool:=match L[place L key]? with
 | some p=>p.Key==key
 | none=>false
def Dy(L:List aA)(key:List UInt8):aA:=(L[place L key]?).getD ⟨[],[]⟩
theorem Au(L:List aA)(key:List UInt8):place L key≤L.length:=(List.takeWhile_sublist _).length_le
theorem Av(key:List UInt8):∀(L:List aA) (k:Nat),k≤L.length→(∀i (h:i<L.length),i<k→Op.bytesLess L[i].Key key=true)→(∀h:k<L.length,Op.bytesLess L[k].Key key=false)→k=place L key
 | [],k=>λh _ _=>by simp[place]at *;exact h
 | p::L,0=>λh _ g=>by
  have:=g (by simp)
  simp at this
  simp[place,List.takeWhile_cons,this]
 | p::L,k+1=>λh f g=>by
  have h1:=f 0 (by simp) (by omega)
  have h2:=Av key L k (by simpa using h) (λi hi hk=>by have:=f (i+1) (by simpa using hi) (by omega);simpa using this) (λhk=>by have:=g (by simpa using hk);simpa using this)
  simp at h1
  simp[place,List.takeWhile_cons,h1]at *
  exact h2
theorem Fq(key:List UInt8):∀(L:List aA) (i:Nat) (h:i<L.length),i<place L key→Op.bytesLess L[i].Key key=true
 | [],i=>λh=>by simp at h
 | p::L,i=>λh hp=>by
  cases e:Op.bytesLess p.Key key
  ·simp[place,List.takeWhile_cons,e]at hp
  ·cases i with
   | zero=>simpa using e
   | succ i =>
    simp[place,List.takeWhile_cons,e]at hp
    have:=Fq key L i (by simpa using h) (by unfold place;omega)
    simpa using this
theorem Aw(key:List UInt8):∀(L:List aA) (h:place L key<L.length),Op.bytesLess L[place L key].Key key=false
 | []=>λh=>by simp at h
 | p::L=>λh=>by
  cases e:Op.bytesLess p.Key key
  ·have:place (p::L) key=0:=by simp[place,List.takeWhile_cons,e]
   simp only[this]
   simpa using e
  ·have q:place (p::L) key=place L key+1:=by simp[place,List.takeWhile_cons,e]
   simp only[q]at h ⊢
   have:=Aw key L (by simpa using h)
   simpa using this
theorem uZ(L:List aA)(key:List UInt8)(h:place L key<L.length):mO L key=(L[place L key].Key==key):=by
 unfold mO
 rw[aS h]
theorem LW(L:List aA)(key:List UInt8)(h:¬place L key<L.length):mO L key=false:=by
 unfold mO
 rw[List.getElem?_eq_none (by omega)]
theorem l6{L:List aA}{key:List UInt8}(h:mO L key=true):place L key<L.length:=by
 by_cases c:place L key<L.length
 ·exact c
 ·rw[LW L key c]at h;cases h
theorem LX{L:List aA}{key:List UInt8}(h:place L key<L.length):iY L (place L key:Int)=some (Dy L key):=by
 unfold Dy
 rw[tu h,aS h]
 rfl
theorem Dv{L:List aA}{key:List UInt8}(h:mO L key=true):(Dy L key).Key=key:=by
 have c:=l6 h
 rw[uZ L key c]at h
 unfold Dy
 rw[aS c]
 simpa using h
theorem lU{L:List aA}(h:uY L){i j:Nat}(hj:j<L.length)(hi:i<j):Op.bytesLess (L[i]'(by omega)).Key L[j].Key=true:=by
 unfold uY at h
 rw[List.pairwise_iff_getElem]at h
 have:=h i j (by simp;omega) (by simpa using hj) hi
 simpa using this
theorem GD(L:List aA)(key:List UInt8)(hs:uY L)(hl:L.length≤1000):bA L key=some ((place L key:Int),mO L key):=by
 have key1:∃e,bT L key (((0:Nat):Int),(L.length:Int))=some e∧e=(place L key:Int):=by
  refine xL (λs=>(s.2-s.1).toNat) (λs=>∃i j:Nat,s=((i:Int),(j:Int))∧i≤j∧j≤L.length∧(∀m (h:m<L.length),m<i→Op.bytesLess L[m].Key key=true)∧(∀m (h:m<L.length),j≤m→Op.bytesLess L[m].Key key=false)) _ ?_ KK _ ⟨0,L.length,rfl,by omega,by omega,λ_ _ h=>by omega,λ_ _ h=>by omega⟩ (by have:=KC;simp only;omega)
  rintro s ⟨i,j,rfl,h1,h2,h3,h4⟩
  simp only[bC]
  by_cases c:i<j
  ·left
   have hm:IntKind.i64.wrap (IW .u64 (IntKind.u64.wrap (IntKind.i64.wrap ((i:Int)+(j:Int)))) 1)=(((i+j)/2:Nat):Int):=by
    rw[pK (x:=(i:Int)+j) (by omega) (by omega),Kz (by omega) (by omega)]
    have:IW .u64 ((i:Int)+(j:Int)) 1=(((i+j)/2:Nat):Int):=by
     have e:IW .u64 ((i:Int)+(j:Int)) 1=((i:Int)+(j:Int)).fdiv 2:=rfl
     rw[e,Int.fdiv_eq_ediv_of_nonneg _ (by omega)]
     omega
    rw[this,pK (by omega) (by omega)]
   rw[hm]
   have hb:(i+j)/2<L.length:=by omega
   rw[jy (by omega),cond_true,tu hb,aC,Cq,aC]
   cases e:Op.bytesLess L[(i+j)/2].Key key
   ·have c0:(if (false=true)then (-1:Int)else if L[(i+j)/2].Key=key then 0 else 1)=(if L[(i+j)/2].Key=key then 0 else 1):=by simp
    rw[c0,jc (by split<;>omega),cond_false]
    refine⟨_,rfl,⟨i,(i+j)/2,rfl,by omega,by omega,h3,λm hm2 UG=>?_⟩,by simp only;omega⟩
    by_cases q:m=(i+j)/2
    ·subst q;exact e
    ·have r:=lU hs hm2 (show(i+j)/2<m by omega)
     cases z:Op.bytesLess L[m].Key key
     ·rfl
     ·rw[sO _ _ _ r z]at e;cases e
   ·rw[if_pos rfl,jy (by omega),cond_true,pK (x:=(((i+j)/2:Nat):Int)+1) (by omega) (by omega),xM]
    refine⟨_,rfl,⟨(i+j)/2+1,j,rfl,by omega,h2,λm hm2 UG=>?_,h4⟩,by simp only;omega⟩
    by_cases q:m=(i+j)/2
    ·subst q;exact e
    ·exact sO _ _ _ (lU hs hb (show m<(i+j)/2 by omega)) e
  ·right
   obtain rfl:i=j:=by omega
   rw[jc (by omega),cond_false]
   refine⟨_,rfl, ?_⟩
   rw[←Av key L i h2 h3 (λh=>h4 i h (by omega))]
 obtain⟨e,e1,rfl⟩:=key1
 unfold bA
 rw[show((0:Int),(L.length:Int))=(((0:Nat):Int),(L.length:Int))from rfl,e1,aC]
 by_cases c:place L key<L.length
 ·rw[jy (by omega),cond_true,tu c,aC,Cq,aC,uZ L key c,Aw key L c]
  by_cases q:L[place L key].Key=key
  ·simp[q]
  ·have:(L[place L key].Key==key)=false:=by simpa using q
   simp[q]
 ·rw[jc (by omega),cond_false,LW L key c]
theorem Oo(a b:Int):(a==b)=decide (a=b):=Ng a b
def qR(o:aX):Bool :=
 decide (1≤o.Kind)&&decide (o.Kind≤4)&&decide (1≤o.Key.length)&&decide (o.Key.length≤8)&&decide (o.Value.length≤16)&&decide (o.Old.length≤16) &&
  (decide (o.Kind=2)||decide (o.Kind=4)||decide (o.Value=[]))&&(decide (o.Kind=4)||decide (o.Old=[]))
theorem Oq(l:List UInt8):(l==([]:List UInt8))=decide (l=[]):=by cases l<;>rfl
theorem Fu(o:aX):j5 o=some (qR o):=by
 unfold j5 kM kQ kP kN qR
 simp only[Oq,Oo]
 by_cases h1:o.Kind<1
 ·rw[jy h1,jc (show ¬o.Kind=2 by omega),jc (show ¬o.Kind=4 by omega),jc (show ¬ 1≤o.Kind by omega)];simp[yY]
 by_cases h2:o.Kind>4
 ·simp[h1,h2,yY,show ¬o.Kind≤4 by omega,show ¬o.Kind=2 by omega,show ¬o.Kind=4 by omega]
 by_cases h3:o.Key=[]
 ·by_cases a:o.Kind=2<;>by_cases b:o.Kind=4<;>simp[h1,h2,h3,yY,a,b]
 have h3':1≤o.Key.length:=by
  cases e:o.Key with
  | nil=>exact absurd e h3
  | cons _ _=>simp
 by_cases h4:o.Key.length≤8
 case neg =>
  have:(o.Key.length:Int)>8:=by omega
  by_cases a:o.Kind=2<;>by_cases b:o.Kind=4<;>simp[h1,h2,h3,h4,yY,a,b,this]
 by_cases h5:o.Value.length≤16
 case neg =>
  have:(o.Value.length:Int)>16:=by omega
  by_cases a:o.Kind=2<;>by_cases b:o.Kind=4<;>simp[h1,h2,h3,h4,h5,yY,a,b,this]
 by_cases h6:o.Old.length≤16
 case neg =>
  have:(o.Old.length:Int)>16:=by omega
  by_cases a:o.Kind=2<;>by_cases b:o.Kind=4<;>simp[h1,h2,h3,h4,h5,h6,yY,a,b,this]
 have e4:¬(o.Key.length:Int)>8:=by omega
 have e5:¬(o.Value.length:Int)>16:=by omega
 have e6:¬(o.Old.length:Int)>16:=by omega
 rw[jc h1,jc h2,jc e4,jc e5,jc e6,jc h3,jy (show 1≤o.Kind by omega),jy (show o.Kind≤4 by omega),jy h3',jy h4,jy h5,jy h6]
 by_cases a:o.Kind=2<;>by_cases b:o.Kind=4<;>by_cases c:o.Value=[]<;>simp[yY,a,b,c]<;>omega
theorem Ay{o:aX}(h:qR o=true):1≤o.Kind∧o.Kind≤4:=by
 unfold qR at h
 simp only[Bool.and_eq_true,decide_eq_true_eq]at h
 omega
def Qq(o:aX)(L:List aA):aO×List aA :=
 if qR o=false then (⟨1,[]⟩,L)
 else if o.Kind=2 then
  if mO L o.Key=true then (⟨0,[]⟩,L.set (place L o.Key) ⟨o.Key,o.Value⟩)
  else if L.length=8 then (⟨5,[]⟩,L)else (⟨0,[]⟩,mV L (place L o.Key) ⟨o.Key,o.Value⟩)
 else if mO L o.Key=false then (⟨4,[]⟩,L)
 else if o.Kind=1 then (⟨0,(Dy L o.Key).Value⟩,L)
 else if o.Kind=4 then (if (Dy L o.Key).Value=o.Old then (⟨0,[]⟩,L.set (place L o.Key) ⟨o.Key,o.Value⟩)else (⟨6,(Dy L o.Key).Value⟩,L))
 else (⟨0,[]⟩,nZ L (place L o.Key) ((place L o.Key:Int)+1))
def FD(L:List aA):Prop:=uY L∧L.length≤8
theorem LY(L:List aA)(k:Nat)(p:aA)(h:k<L.length)(e:L[k].Key=p.Key):(L.set k p).map (·.Key)=L.map (·.Key):=by
 apply List.ext_getElem
 ·simp
 ·intro i h1 h2
  simp only[List.getElem_map,List.getElem_set]
  split
  ·next q=>subst q;exact e.symm
  ·rfl
theorem LZ{L:List aA}(h:FD L){key v:List UInt8}(hd:mO L key=true):FD (L.set (place L key) ⟨key,v⟩):=by
 have c:=l6 hd
 have e:L[place L key].Key=key:=by rw[uZ L key c]at hd;simpa using hd
 refine⟨?_,by rw[bO];exact h.2⟩
 unfold uY
 rw[LY L _ _ c e]
 exact h.1
theorem Qe{L:List aA}(h:FD L){key v:List UInt8}(hd:mO L key=false)(hl:L.length≠8):FD (mV L (place L key) ⟨key,v⟩):=by
 have pl:=Au L key
 refine⟨?_,by simp only[mV,aG,aQ,bE,aM];have:=h.2;omega⟩
 unfold uY mV
 rw[bn,List.map_append,List.map_cons,List.pairwise_append]
 have hr:=h.1
 unfold uY at hr
 have ht:∀a∈(L.take (place L key)).map (·.Key),Op.bytesLess a key=true:=by
  intro a ha
  rw[List.mem_map]at ha
  obtain⟨p,hp,rfl⟩:=ha
  obtain⟨i,hi,rfl⟩:=List.mem_iff_getElem.1 hp
  simp only[aQ]at hi
  rw[List.getElem_take]
  exact Fq key L i (by omega) (by omega)
 have hdr:∀a∈(L.drop (place L key)).map (·.Key),Op.bytesLess key a=true:=by
  intro a ha
  rw[List.mem_map]at ha
  obtain⟨p,hp,rfl⟩:=ha
  obtain⟨i,hi,rfl⟩:=List.mem_iff_getElem.1 hp
  simp only[aM]at hi
  rw[List.getElem_drop]
  have c:place L key<L.length:=by omega
  have f:Op.bytesLess key L[place L key].Key=true:=by
   refine Fp _ _ (Aw key L c) (λq=>?_)
   rw[uZ L key c,q]at hd
   simp at hd
  cases i with
  | zero=>simpa using f
  | succ i=>exact sO _ _ _ f (lU h.1 (by omega) (by omega))
 refine⟨?_, ?_, ?_⟩
 ·exact List.Pairwise.sublist ((List.take_sublist _ _).map _) hr
 ·rw[List.pairwise_cons]
  exact⟨hdr,List.Pairwise.sublist ((List.drop_sublist _ _).map _) hr⟩
 ·intro a ha b hb
  rcases List.mem_cons.1 hb with rfl | hb
  ·exact ht a ha
  ·exact sO _ _ _ (ht a ha) (hdr b hb)
theorem Qf{L:List aA}(h:FD L)(k:Nat)(hk:k<L.length):FD (nZ L k ((k:Int)+1)):=by
 have e:nZ L k ((k:Int)+1)=L.eraseIdx k:=by
  unfold nZ
  rw[bn,show((k:Int)+1).toNat=k+1 by omega,List.eraseIdx_eq_take_drop_succ]
 rw[e]
 exact⟨List.Pairwise.sublist ((List.eraseIdx_sublist _ _).map _) h.1,Nat.le_trans (List.eraseIdx_sublist _ _).length_le h.2⟩
theorem Ot{β:Type}{n:Nat}{x:Option β}(h:n≤100):gd (fZ 32 n) x=x:=Nf (by omega) (by omega)
theorem Rm{L:List aA}{key v:List UInt8}(h:FD L)(hd:mO L key=true):(gd (fZ 32 L.length) ((iY L (place L key:Int)).bind λ(x2:aA)=>some (L.set (place L key:Int).toNat (⟨x2.Key,v⟩:aA))))=some (L.set (place L key) ⟨key,v⟩):=by
 rw[Ot (by have:=h.2;omega),LX (l6 hd),aC,Dv hd,bn]
theorem I9(o:aX)(L:List aA)(h:FD L):eu o L=some (Qq o L):=by
 have hl:=h.2
 have pl:=Au L o.Key
 unfold eu iD Qq
 rw[Fu,aC,GD L o.Key h.1 (by omega)]
 cases hr:qR o
 ·simp
 have hk:=Ay hr
 simp only[Bool.not_true,cond_false,aC,Bool.true_eq_false,if_false,Oo]
 by_cases k2:o.Kind=2
 ·rw[jy k2,cond_true,if_pos k2]
  unfold iN eH
  cases hd:mO L o.Key
  ·rw[cond_false,if_neg (by simp),Oo]
   by_cases l8:L.length=8
   ·rw[jy (by omega),if_pos l8];rfl
   ·rw[jc (by omega),if_neg l8,cond_false,Ot (by omega),Dh (by simp[EL,fZ];omega)];rfl
  ·rw[cond_true,Rm h hd,if_pos rfl];rfl
 rw[jc k2,cond_false,if_neg k2]
 cases hd:mO L o.Key
 ·simp
 have hp:=LX (l6 hd)
 simp only[Bool.not_true,cond_false,Bool.true_eq_false,if_false]
 by_cases k1:o.Kind=1
 ·rw[jy k1,cond_true,if_pos k1,hp];rfl
 rw[jc k1,cond_false,if_neg k1]
 by_cases k4:o.Kind=4
 ·rw[jy k4,cond_true,if_pos k4]
  unfold gK eH
  rw[Rm h hd,hp,aC]
  by_cases q:(Dy L o.Key).Value=o.Old
  ·rw[if_pos q];simp[q]
  ·have:((Dy L o.Key).Value==o.Old)=false:=by simpa using q
   rw[if_neg q,this];rfl
 ·have c:=l6 hd
  rw[jc k4,cond_false,if_neg k4,Ot (by omega),pK (by omega) (by omega),Dh (by simp[Ku];omega)]
theorem ok0:FD []:=⟨List.Pairwise.nil,by simp⟩
theorem wQ{K V:Type} [DecidableEq K](k k':K)(v:V):∀l:List (K×V),f_ (kY l k v) k'=if k'=k then some v else f_ l k'
 | []=>by simp[kY,f_]
 | p::r=>by
  by_cases h:k=p.1
  ·subst h
   simp only[kY,if_true,f_]
   by_cases h':k'=p.1<;>simp[h']
  ·simp only[kY,if_neg h,f_,wQ k k' v r]
   by_cases h':k'=p.1
   ·have:k'≠k:=λe=>h (e.symm.trans h')
    simp[h',this,Ne.symm h]
   ·simp[h']
theorem Az{K V:Type} [DecidableEq K](k:K)(v:V):∀l:List (K×V),(kY l k v).length=if (f_ l k).isSome then l.length else l.length+1
 | []=>by simp[kY,f_]
 | p::r=>by
  by_cases h:k=p.1
  ·simp[kY,f_,h]
  ·simp only[kY,if_neg h,f_,bE,Az k v r]
   split<;>rfl
def L6{K V:Type}(l:List (K×V)):Prop:=(l.map (·.1)).Nodup
theorem wR{K V:Type} [DecidableEq K]{k:K}:∀ {l:List (K×V)},(f_ l k).isSome=true↔k∈l.map (·.1)
 | []=>by simp[f_]
 | p::r=>by
  by_cases h:k=p.1
  ·simp[f_,h]
  ·simp[f_,h,wR (l:=r)]
theorem L8{K V:Type} [DecidableEq K]{k x:K}{v:V}:∀ {l:List (K×V)},x∈(kY l k v).map (·.1)↔x=k∨x∈l.map (·.1):=by
 intro l
 rw[←wR,←wR,wQ]
 by_cases h:x=k<;>simp[h]
theorem AA{K V:Type} [DecidableEq K](k:K)(v:V):∀ {l:List (K×V)},L6 l→L6 (kY l k v)
 | [],_=>by simp[kY,L6]
 | p::r,h=>by
  unfold L6 at h ⊢
  rw[List.map_cons,List.nodup_cons]at h
  by_cases e:k=p.1
  ·simp only[kY,if_pos e,List.map_cons,List.nodup_cons]
   rw[e]
   exact h
  ·simp only[kY,if_neg e,List.map_cons,List.nodup_cons]
   exact⟨λq=>(L8.1 q).elim (λq=>e q.symm) h.1,AA k v h.2⟩
theorem Fv{K V:Type} [DecidableEq K]{k x:K}:∀ {l:List (K×V)},x∈(mq l k).map (·.1)→x∈l.map (·.1)
 | [],h=>by simpa[mq]using h
 | p::r,h=>by
  by_cases e:k=p.1
  ·simp only[mq,if_pos e]at h
   rw[List.map_cons]
   exact List.mem_cons_of_mem _ h
  ·simp only[mq,if_neg e,List.map_cons,List.mem_cons]at h ⊢
   exact h.imp id Fv
theorem Fw{K V:Type} [DecidableEq K](k:K):∀ {l:List (K×V)},L6 l→L6 (mq l k)
 | [],h=>h
 | p::r,h=>by
  unfold L6 at h ⊢
  rw[List.map_cons,List.nodup_cons]at h
  by_cases e:k=p.1
  ·simp only[mq,if_pos e]
   exact h.2
  ·simp only[mq,if_neg e,List.map_cons,List.nodup_cons]
   exact⟨λq=>h.1 (Fv q),Fw k h.2⟩
theorem Fx{K V:Type} [DecidableEq K](k k':K):∀ {l:List (K×V)},L6 l→f_ (mq l k) k'=if k'=k then none else f_ l k'
 | [],_=>by simp[mq,f_]
 | p::r,h=>by
  unfold L6 at h
  rw[List.map_cons,List.nodup_cons]at h
  by_cases e:k=p.1
  ·simp only[mq,if_pos e,f_]
   by_cases e':k'=p.1
   ·rw[if_pos (e'.trans e.symm)]
    cases q:f_ r k' with
    | none=>rfl
    | some v=>exact absurd (wR.1 (by rw[q];rfl)) (by rw[e'];exact h.1)
   ·rw[if_neg (λq=>e' (q.trans e)),if_neg e']
  ·simp only[mq,if_neg e,f_,Fx k k' h.2]
   by_cases e':k'=p.1
   ·rw[if_pos e',if_pos e',if_neg (λq=>e (q.symm.trans e'))]
   ·rw[if_neg e',if_neg e']
theorem Fy{K V:Type} [DecidableEq K](k:K):∀l:List (K×V),(mq l k).length=if (f_ l k).isSome then l.length-1 else l.length
 | []=>by simp[mq,f_]
 | p::r=>by
  by_cases h:k=p.1
  ·simp[mq,f_,h]
  ·simp only[mq,if_neg h,f_,bE,Fy k r]
   by_cases q:(f_ r k).isSome=true
   ·rw[if_pos q,if_pos q]
    have:0<r.length:=by
     cases r with
     | nil=>simp[f_]at q
     | cons=>simp
    omega
   ·rw[if_neg q,if_neg q]
theorem Fz{L:List aA}(h:FD L){i j:Nat}(hi:i<L.length)(hj:j<L.length)(e:L[i].Key=L[j].Key):i=j:=by
 rcases Nat.lt_trichotomy i j with c | c | c
 ·have:=lU h.1 hj c
  rw[e,tF]at this
  cases this
 ·exact c
 ·have:=lU h.1 hi c
  rw[e,tF]at this
  cases this
theorem L9{L:List aA}(h:FD L){i:Nat}(hi:i<L.length):place L L[i].Key=i:=by
 symm
 refine Av _ L i (by omega) (λj hj hji=>lU h.1 hi hji) (λ_=>tF _)
theorem Ic{L:List aA}(h:FD L){k:List UInt8}:mO L k=true↔∃p∈L,p.Key=k:=by
 constructor
 ·intro hd
  have c:=l6 hd
  rw[uZ L k c]at hd
  exact⟨_,List.getElem_mem c,by simpa using hd⟩
 ·rintro⟨p,hp,rfl⟩
  obtain⟨i,hi,rfl⟩:=List.mem_iff_getElem.1 hp
  have e:=L9 h hi
  rw[uZ L _ (by rw[e];exact hi)]
  simp[e]
theorem Ou{L:List aA}{k:List UInt8}(hd:mO L k=true):Dy L k∈L∧(Dy L k).Key=k:=by
 refine⟨?_,Dv hd⟩
 have c:=l6 hd
 unfold Dy
 rw[aS c]
 exact List.getElem_mem c
theorem L_{L:List aA}(h:FD L){p q:aA}(hp:p∈L)(hq:q∈L)(e:p.Key=q.Key):p=q:=by
 obtain⟨i,hi,rfl⟩:=List.mem_iff_getElem.1 hp
 obtain⟨j,hj,rfl⟩:=List.mem_iff_getElem.1 hq
 have:=Fz h hi hj e
 subst this
 rfl
theorem Ma{L:List aA}(h:FD L){key v:List UInt8}(hd:mO L key=true)(x:aA):x∈L.set (place L key) ⟨key,v⟩↔(x=⟨key,v⟩∨(x.Key≠key∧x∈L)):=by
 have c:=l6 hd
 have h':=LZ h hd (v:=v)
 have hn:(⟨key,v⟩:aA)∈L.set (place L key) ⟨key,v⟩:=List.mem_iff_getElem.2 ⟨place L key,by rw[bO];exact c,by simp⟩
 constructor
 ·intro hx
  by_cases e:x.Key=key
  ·exact .inl (L_ h' hx hn e)
  ·rcases List.mem_or_eq_of_mem_set hx with q | q
   ·exact .inr ⟨e,q⟩
   ·exact .inl q
 ·rintro(rfl |⟨e,hx⟩)
  ·exact hn
  ·obtain⟨i,hi,rfl⟩:=List.mem_iff_getElem.1 hx
   have ne:place L key≠i:=λq=>e (by
    have:=Dv hd
    unfold Dy at this
    rw[aS c]at this
    simp only[q]at this
    exact this)
   exact List.mem_iff_getElem.2 ⟨i,by rw[bO];exact hi,by rw[List.getElem_set,if_neg ne]⟩
theorem Mc{L:List aA}{k:Nat}{p:aA}(x:aA):x∈mV L (k:Int) p↔x=p∨x∈L:=by
 unfold mV
 rw[bn,List.mem_append,List.mem_cons]
 constructor
 ·rintro(q | rfl | q)
  ·exact .inr (List.mem_of_mem_take q)
  ·exact .inl rfl
  ·exact .inr (List.mem_of_mem_drop q)
 ·rintro(rfl | q)
  ·exact .inr (.inl rfl)
  ·rw[←List.take_append_drop k L,List.mem_append]at q
   rcases q with q | q
   ·exact .inl q
   ·exact .inr (.inr q)
theorem Md{L:List aA}(h:FD L){key:List UInt8}(hd:mO L key=true)(x:aA):x∈nZ L (place L key:Int) ((place L key:Int)+1)↔x.Key≠key∧x∈L:=by
 have c:=l6 hd
 have hk:L[place L key].Key=key:=by
  have:=uZ L key c
  rw[hd]at this
  simpa using this.symm
 have e:nZ L (place L key:Int) ((place L key:Int)+1)=L.eraseIdx (place L key):=by
  unfold nZ
  rw[bn,show((place L key:Int)+1).toNat=place L key+1 by omega,List.eraseIdx_eq_take_drop_succ]
 rw[e,List.mem_eraseIdx_iff_getElem]
 constructor
 ·rintro⟨i,hi,q⟩
  obtain⟨q1,rfl⟩:=q
  exact⟨λe2=>q1 (Fz h hi c (e2.trans hk.symm)),List.getElem_mem hi⟩
 ·rintro⟨q,hx⟩
  obtain⟨i,hi,rfl⟩:=List.mem_iff_getElem.1 hx
  exact⟨i,hi,λe2=>q (by subst e2;exact hk),rfl⟩
theorem SG:∀k:Fin 16,dL (k.val:Int) 16=some (k.val:Int):=by decide +kernel
theorem TM:∀k:Fin 6,dL (k.val:Int) 6=some (k.val:Int):=by decide +kernel
theorem UH:∀k:Fin 4,dL (k.val:Int) 4=some (k.val:Int):=by decide +kernel
theorem Qg:∀a:Fin 4,∀k:Fin 16,∀v:Fin 6,∀o:Fin 6,(uq (a.val:Int) (k.val:Int) (v.val:Int) (o.val:Int)).map qR=some true:=by decide +kernel
theorem Me(a b c d:Int):∃o,uq a b c d=some o∧qR o=true:=by
 obtain⟨k,hk,hk2⟩:=wO b 16 (by omega) (by omega)
 obtain⟨v,hv,hv2⟩:=wO c 6 (by omega) (by omega)
 obtain⟨w,hw,hw2⟩:=wO d 6 (by omega) (by omega)
 obtain⟨n,hn,hn2⟩:=wO a 4 (by omega) (by omega)
 have hk:dL b 16=some (k:Int):=hk
 have hv:dL c 6=some (v:Int):=hv
 have hw:dL d 6=some (w:Int):=hw
 have hn:dL a 4=some (n:Int):=hn
 have e1:xP b=xP (k:Int):=by
  unfold xP
  rw[hk,SG ⟨k,hk2⟩]
 have e2:jK c=jK (v:Int):=by
  unfold jK
  rw[hv,TM ⟨v,hv2⟩]
 have e3:jK d=jK (w:Int):=by
  unfold jK
  rw[hw,TM ⟨w,hw2⟩]
 have e4:dL a 4=dL (n:Int) 4:=by rw[hn,UH ⟨n,hn2⟩]
 have e:uq a b c d=uq (n:Int) (k:Int) (v:Int) (w:Int):=by
  unfold uq wu wo
  simp only[e1,e2,e3,e4]
 have all:=Qg ⟨n,hn2⟩ ⟨k,hk2⟩ ⟨v,hv2⟩ ⟨w,hw2⟩
 rw[e]
 simp only at all
 cases h:uq (n:Int) (k:Int) (v:Int) (w:Int)with
 | none=>rw[h]at all;cases all
 | some o=>rw[h]at all;exact⟨o,rfl,ak all⟩
theorem Qh:iO=some true:=by decide +kernel
abbrev MP:=List (List UInt8×List UInt8)
structure Inv(m:MP)(L:List aA):Prop where
 ok:FD L
 nd:L6 m
 len:m.length=L.length
 get:∀k v,f_ m k=some v↔(⟨k,v⟩:aA)∈L
theorem Inv.some_{m:MP}{L:List aA}(h:Inv m L){k:List UInt8}(hd:mO L k=true):f_ m k=some (Dy L k).Value:=by
 obtain⟨h1,h2⟩:=Ou hd
 rw[h.get]
 generalize Dy L k=p at h1 h2 ⊢
 subst h2
 exact h1
theorem Inv.none_{m:MP}{L:List aA}(h:Inv m L){k:List UInt8}(hd:mO L k=false):f_ m k=none:=by
 cases e:f_ m k with
 | none=>rfl
 | some v =>
  have:mO L k=true:=(Ic h.ok).2 ⟨_,(h.get k v).1 e,rfl⟩
  rw[hd]at this
  cases this
theorem Inv.Rn{m:MP}{L:List aA}(h:Inv m L){k v:List UInt8}(hd:mO L k=true):Inv (kY m k v) (L.set (place L k) ⟨k,v⟩):=by
 refine⟨LZ h.ok hd,AA k v h.nd, ?_,λk' v'=>?_⟩
 ·rw[Az,h.some_ hd,bO]
  exact h.len
 ·rw[wQ,Ma h.ok hd]
  by_cases e:k'=k
  ·subst e
   simp[eq_comm]
  ·simp[e,h.get]
theorem Inv.SH{m:MP}{L:List aA}(h:Inv m L){k v:List UInt8}(hd:mO L k=false)(hl:L.length≠8):Inv (kY m k v) (mV L (place L k) ⟨k,v⟩):=by
 refine⟨Qe h.ok hd hl,AA k v h.nd, ?_,λk' v'=>?_⟩
 ·have:=Au L k
  rw[Az,h.none_ hd,h.len]
  simp only[mV,aG,aQ,bE,aM,bn,Option.isSome_none,Bool.false_eq_true,if_false]
  omega
 ·rw[wQ,Mc]
  by_cases e:k'=k
  ·subst e
   have:∀w,(⟨k',w⟩:aA)∉L:=λw hw=>by
    have:=(Ic h.ok).2 ⟨_,hw,rfl⟩
    rw[hd]at this
    cases this
   simp[this,eq_comm]
  ·simp[e,h.get]
theorem Inv.SI{m:MP}{L:List aA}(h:Inv m L){k:List UInt8}(hd:mO L k=true):Inv (mq m k) (nZ L (place L k) ((place L k:Int)+1)):=by
 have c:=l6 hd
 refine⟨Qf h.ok _ c,Fw k h.nd, ?_,λk' v'=>?_⟩
 ·rw[Fy,h.some_ hd,h.len]
  simp only[nZ,aG,aQ,aM,bn,Option.isSome_some,if_true]
  rw[show((place L k:Int)+1).toNat=place L k+1 by omega]
  omega
 ·rw[Fx k k' h.nd,Md h.ok hd]
  by_cases e:k'=k
  ·subst e
   simp
  ·simp[e,h.get]
theorem step_ok {m:MP} {L:List aA} (h:Inv m L) (o:aX) (hr:qR o=true) (i:Int) (ops:List bV) (qd:aO×List aA) :
  ∃m',dR o ((f_ m o.Key).getD [],(f_ m o.Key).isSome) (i,m,L) ops qd=some (m',(Qq o L).1)∧Inv m' (Qq o L).2:=by
 obtain⟨k1,k2⟩:=Ay hr
 have h8:=h.ok.2
 unfold dR eO Qq
 rw[if_neg (by rw[hr];simp)]
 simp only[Oo]
 by_cases e2:o.Kind=2
 ·rw[jy e2,if_pos e2]
  cases hd:mO L o.Key
  ·rw[h.none_ hd]
   simp only[Option.isSome_none,Bool.not_false,cond_true,aC,Bool.false_eq_true,if_false]
   by_cases e8:L.length=8
   ·rw[jy (show(m.length:Int)=8 by rw[h.len];omega),if_pos e8]
    exact⟨m,rfl,h⟩
   ·rw[jc (show ¬(m.length:Int)=8 by rw[h.len];omega),if_neg e8]
    exact⟨_,rfl,h.SH hd e8⟩
  ·rw[h.some_ hd]
   simp only[Option.isSome_some,Bool.not_true,cond_false,cond_true,aC,if_true]
   exact⟨_,rfl,h.Rn hd⟩
 rw[jc e2,if_neg e2]
 simp only[cond_false,aC]
 cases hd:mO L o.Key
 ·rw[h.none_ hd]
  simp only[Option.isSome_none,Bool.not_false,cond_true,if_true]
  exact⟨m,rfl,h⟩
 rw[h.some_ hd]
 simp only[Option.isSome_some,Bool.not_true,cond_false,Option.getD_some,Bool.true_eq_false,if_false]
 by_cases e1:o.Kind=1
 ·rw[jy e1,if_pos e1]
  exact⟨m,rfl,h⟩
 rw[jc e1,if_neg e1,cond_false]
 by_cases e3:o.Kind=3
 ·rw[jy e3,if_neg (by omega)]
  exact⟨_,rfl,h.SI hd⟩
 rw[jc e3,if_pos (by omega),cond_false]
 by_cases q:(Dy L o.Key).Value=o.Old
 ·rw[if_pos q,show((Dy L o.Key).Value==o.Old)=true by simpa using q]
  exact⟨_,rfl,h.Rn hd⟩
 ·rw[if_neg q,show((Dy L o.Key).Value==o.Old)=false by simpa using q]
  exact⟨m,rfl,h⟩
theorem oO(x0:List bV)(o0:(Tk yE) x0)(hb:(QW mD) x0≤1048576):gM x0=some true:=by
 have hl:x0.length≤1048576:=by have:=Na (bk:=mD) (λx=>by unfold mD bk1;omega) x0;omega
 have l2:∃e,g_ x0 (0,[],[])=some e∧∃m L,e=.inr (m,L)∧Inv m L:=by
  refine xL (λ(s:Int×MP×List aA)=>x0.length-s.1.toNat) (λs=>∃(i:Nat) (m:MP) (L:List aA),s=((i:Int),m,L)∧i≤x0.length∧Inv m L) (λ(e:Unit⊕(MP×List aA))=>∃m L,e=.inr (m,L)∧Inv m L) ?_ KK _ ⟨0,[],[],rfl,by omega,⟨ok0,by simp[L6],rfl,λk v=>by simp[f_]⟩⟩ (by have:=KC;simp only;omega)
  rintro s ⟨i,m,L,rfl,g1,g2⟩
  simp only[dM]
  by_cases c:i<x0.length
  case neg =>
   right
   rw[jc (by omega),cond_false]
   exact⟨_,rfl,m,L,rfl,g2⟩
  left
  obtain⟨o,ho,hr⟩:=Me x0[i].Kind x0[i].Key x0[i].Value x0[i].Old
  obtain⟨m',j,hi⟩:=step_ok g2 o hr (i:Int) x0 (Qq o L)
  rw[jy (by omega),cond_true,tu c,aC,ho,aC,aC,I9 _ _ g2.ok,aC,j,aC]
  simp only[beq_self_eq_true,Bool.and_true,Bool.not_true,cond_false,iJ,aC]
  rw[Q0 (by rw[hi.len]),cond_false,pK (by omega) (by omega),xM]
  exact⟨_,rfl,⟨i+1,m',_,rfl,by omega,hi⟩,by simp only;omega⟩
 obtain⟨e,e1,m,L,rfl,h⟩:=l2
 have h8:=h.ok.2
 unfold gM
 rw[e1,aC]
 simp only[yY,cond_false,uP]
 have hp:gL L=some L:=by
  unfold gL
  rw[Ot (by omega)]
 rw[hp,aC]
 have l3:eP L (.inr (m,L)) 0=some (.inr ()):=by
  unfold eP
  refine Ky (λi=>(i:Int)) L.length _ (λi hi=>?_) ?_ (by omega)
  ·have g:f_ m L[i].Key=some L[i].Value:=(h.get _ _).2 (List.getElem_mem hi)
   unfold dh
   simp only[uP]
   rw[jy (by omega),cond_true,tu hi,aC,aC,g]
   simp only[Option.isSome_some,Option.getD_some,Bool.not_true,cond_false,beq_self_eq_true]
   rw[pK (x:=(i:Int)+1) (by omega) (by omega),xM]
   by_cases h0:i=0
   ·subst h0
    rfl
   ·obtain⟨j,rfl⟩:∃j,i=j+1:=⟨i-1,by omega⟩
    have hj:j<L.length:=by omega
    have:=lU h.ok.1 hi (show j<j+1 by omega)
    rw[jy (by omega),cond_true,pK (by omega) (by omega),show((j+1:Nat):Int)-1=(j:Int)by omega,tu hj,aC,this]
    rfl
  ·unfold dh
   rw[jc (by omega),cond_false]
 rw[l3,Qh]
 simp only[aC,yY,cond_false,cond_true,h.len]
 rw[QZ rfl]
end Go.Proofs.Ytkedeiklmpkgkaa
