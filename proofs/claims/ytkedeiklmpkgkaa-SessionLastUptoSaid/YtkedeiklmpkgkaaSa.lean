import Derived.Test.YtkedeiklmpkgkaaJ5
import Derived.Test.YtkedeiklmpkgkaaProg
import Derived.Test.YtkedeiklmpkgkaaJ6
import Derived.Test.YtkedeiklmpkgkaaL1
set_option linter.all false
set_option maxRecDepth 100000
namespace Go.Proofs.Ytkedeiklmpkgkaa
noncomputable def F8:dR:={ nargs:=1,ntmps:=89,code:=codeOf (fT Try.prog 3 [[3,4,14,15,16],[4,9,60,61,62]]),results:=[(.tmp 2)] }
theorem Iz:fT Try.prog 3 [[3,4,14,15,16],[4,9,60,61,62]]=some F8:=by kernel_rfl
theorem IB:F8.code.bO=true:=by kernel_rfl
noncomputable def EF:dw:=(cL (cK (cB (cA (cB (cB (cB F8.code)))))))
theorem EG:EF.bO=true:=by kernel_rfl
noncomputable def lF:dw:=(cA (cB (cB (cK (cA (cB (cB (cL (cK (cB (cA (cB (cB (cB F8.code))))))))))))))
theorem nY:lF.bO=true:=by kernel_rfl
noncomputable def u_:dw:=(cA (cB (cB (cB (cB (cB F8.code))))))
theorem vI:u_.bO=true:=by kernel_rfl
noncomputable def EH:dw:=(cL (cK (cB (cA (cB (cB (cB (cB (cB (cB F8.code))))))))))
theorem EI:EH.bO=true:=by kernel_rfl
noncomputable def EJ:dR:={ nargs:=1,ntmps:=30,code:=codeOf (fT Try.prog 12 []),results:=[(.cell 2 true 4)] }
theorem F9:fT Try.prog 12 []=some EJ:=by kernel_rfl
theorem Ga:EJ.code.bO=true:=by kernel_rfl
noncomputable def CG:dR:={ nargs:=2,ntmps:=38,code:=codeOf (fT Try.prog 13 []),results:=[(.tmp 4)] }
theorem Gb:fT Try.prog 13 []=some CG:=by kernel_rfl
theorem Gc:CG.code.bO=true:=by kernel_rfl
noncomputable def BF:dw:=(cA (cB CG.code))
theorem Am:BF.bO=true:=by kernel_rfl
noncomputable def CJ:dR:={ nargs:=1,ntmps:=23,code:=codeOf (fT Try.prog 14 [[3,9,10]]),results:=[(.tmp 2)] }
theorem Gd:fT Try.prog 14 [[3,9,10]]=some CJ:=by kernel_rfl
theorem Gf:CJ.code.bO=true:=by kernel_rfl
noncomputable def Ao:dw:=(cL (cK (cB (cA (cB (cB CJ.code))))))
theorem CK:Ao.bO=true:=by kernel_rfl
noncomputable def EK:dR:={ nargs:=0,ntmps:=21,code:=codeOf (fT Try.prog 15 []),results:=[(.tmp 0)] }
theorem Gg:fT Try.prog 15 []=some EK:=by kernel_rfl
theorem Gh:EK.code.bO=true:=by kernel_rfl
noncomputable def EL:dR:={ nargs:=2,ntmps:=14,code:=codeOf (fT Try.prog 23 []),results:=[(.tmp 4)] }
theorem Gi:fT Try.prog 23 []=some EL:=by kernel_rfl
theorem Gj:EL.code.bO=true:=by kernel_rfl
noncomputable def EM:dR:={ nargs:=1,ntmps:=7,code:=codeOf (fT Try.prog 51 []),results:=[(.tmp 2)] }
theorem Gl:fT Try.prog 51 []=some EM:=by kernel_rfl
theorem Gm:EM.code.bO=true:=by kernel_rfl
noncomputable def CO:dR:={ nargs:=1,ntmps:=35,code:=codeOf (fT Try.prog 63 []),results:=[(.tmp 2)] }
theorem Gn:fT Try.prog 63 []=some CO:=by kernel_rfl
theorem Gp:CO.code.bO=true:=by kernel_rfl
noncomputable def vg:dw:=(cA (cK (cB (cA (cB CO.code)))))
theorem vJ:vg.bO=true:=by kernel_rfl
noncomputable def EN:dR:={ nargs:=1,ntmps:=9,code:=codeOf (fT Try.prog 64 []),results:=[(.tmp 2)] }
theorem Gq:fT Try.prog 64 []=some EN:=by kernel_rfl
theorem Gs:EN.code.bO=true:=by kernel_rfl
def wX{α:Type}:List (Nat×α)→Nat→Option α
 | [],_=>none
 | p::r,n=>match Nat.beq p.1 n with
  | true=>some p.2
  | false=>wX r n
theorem oZ{α:Type}:∀ {l:List (Nat×α)} {n:Nat} {x:α},wX l n=some x→(n,x)∈l
 | [],n,x,h=>by cases h
 | p::r,n,x,h=>by
  simp only[wX]at h
  split at h
  ·rename_i e
   obtain rfl:=aj h
   rw[←aH e]
   exact List.mem_cons_self
  ·exact List.mem_cons_of_mem _ (oZ h)
noncomputable def G_:List (Nat×dR):=[(3,F8),(12,EJ),(13,CG),(14,CJ),(15,EK),(23,EL),(51,EM),(63,CO),(64,EN)]
noncomputable def EO:FuncId→Option dR:=wX G_
def KQ:List (Nat×(List AV→Heap→Option (AV×Heap))):=[]
def wG:yP:=wX KQ
theorem IC:∀p∈KQ,(rQ Try.prog p.1∧Sound Try.prog p.1 p.2)∨yx Try.prog p.1 p.2 :=
 (λ_ h=>by cases h)
theorem JE:∀f g,wG f=some g→(rQ Try.prog f∧Sound Try.prog f g)∨yx Try.prog f g:=λf g h=>IC (f,g) (oZ h)
noncomputable def fP:Tab:=(wG,EO)
theorem EP:∀p∈G_,∃h,fT Try.prog p.1 h=some p.2 :=
 bf.2 ⟨⟨_,Iz⟩,bf.2 ⟨⟨_,F9⟩,bf.2 ⟨⟨_,Gb⟩,bf.2 ⟨⟨_,Gd⟩,bf.2 ⟨⟨_,Gg⟩,bf.2 ⟨⟨_,Gi⟩,bf.2 ⟨⟨_,Gl⟩,bf.2 ⟨⟨_,Gn⟩,bf.2 ⟨⟨_,Gq⟩,(λ_ h=>by cases h)⟩⟩⟩⟩⟩⟩⟩⟩⟩
theorem Gt{f:FuncId}{x:dR}(h:EO f=some x):∃hs,fT Try.prog f hs=some x:=EP (f,x) (oZ h)
theorem Lr:fP.1 3=none∧fP.2 3=some F8∧F8.code.bO=true:=FY rfl (by kernel_rfl) IB
theorem Kn:fP.1 12=none∧fP.2 12=some EJ∧EJ.code.bO=true:=FY rfl (by kernel_rfl) Ga
theorem Ko:fP.1 13=none∧fP.2 13=some CG∧CG.code.bO=true:=FY rfl (by kernel_rfl) Gc
theorem Kq:fP.1 14=none∧fP.2 14=some CJ∧CJ.code.bO=true:=FY rfl (by kernel_rfl) Gf
theorem Kr:fP.1 15=none∧fP.2 15=some EK∧EK.code.bO=true:=FY rfl (by kernel_rfl) Gh
theorem Kt:fP.1 23=none∧fP.2 23=some EL∧EL.code.bO=true:=FY rfl (by kernel_rfl) Gj
theorem Ku:fP.1 51=none∧fP.2 51=some EM∧EM.code.bO=true:=FY rfl (by kernel_rfl) Gm
theorem Kv:fP.1 63=none∧fP.2 63=some CO∧CO.code.bO=true:=FY rfl (by kernel_rfl) Gp
theorem Ls:fP.1 64=none∧fP.2 64=some EN∧EN.code.bO=true:=FY rfl (by kernel_rfl) Gs
def KR:List (Nat×Bt):=[(64,.clip 4)]
def wB:FuncId→Option Bt:=wX KR
theorem IE(d:Nat):∀p∈KR,Cu (dx fP (d+1)) p.1 p.2 :=
 bf.2 ⟨Ev rfl (show fP.2 64=some (zq 4)by kernel_rfl),(λ_ h=>by cases h)⟩
theorem JF(d:Nat):∀f b,wB f=some b→Cu (dx fP (d+1)) f b:=λf b h=>IE d (f,b) (oZ h)
def dM(n:Int)(m:Int):Option (Int) :=
 (FV .i64 n m).bind λ(x1:Int)=>cond (decide (x1<0)) (some (IntKind.i64.wrap (x1+m))) (some x1)
def tq(n:Int)(m:Int)(r:Int):AV×WH:=((.int .i64 r),[])
theorem fJ(d:Nat){n:Int}{m:Int}{r:Int}(h:dM n m=some r):Spec (dx fP (d+1)) 23 [(.int .i64 n),(.int .i64 m)] [] (tq n m r).1 (tq n m r).2:=by
 unfold dM at h
 exact l7 nB Kt h (.bd λx1 q1=>.v 7 (.int .i64 x1)<|.ob (Ik q1:sG .rem .i64 n m=some (.int .i64 x1))<|.br 9 (λ_=>Fn Fo [] none) λ_=>Fn Fo [] none)
def oI(n:Int):Option (List UInt8) :=
 (dM n 6).bind λ(x1:Int)=>(kr ([([]:List UInt8),[49],[50],[116,104,114,101,101],[115,105,120,116,101,101,110,32,98,121,116,101,115,32,105,116],[52]]:List (List UInt8)) x1).bind λ(x2:List UInt8)=>some x2
def rA(n:Int)(r:List UInt8):AV×WH:=((.str r),[])
theorem Aq(d:Nat){n:Int}{r:List UInt8}(h:oI n=some r):Spec (dx fP (d+2)) 51 [(.int .i64 n)] [] (rA n r).1 (rA n r).2:=by
 unfold oI at h
 exact l7 nB Ku h (.bd λx1 q1=>Ak (fJ (d+0) q1)<|.bd λx2 q2=>.v 6 (.str x2)<|.ob (Jv Lj q2:wP (.index false 6 1 (.c (.agg [(.str ([]:List UInt8)),(.str [49]),(.str [50]),(.str ([116,104,114,101,101])),(.str ([115,105,120,116,101,101,110,32,98,121,116,101,115,32,105,116])),(.str [52])])) (.c (.int .i64 x1)))=some (.str x2))<|Fn Fo [] none)
abbrev xY(x1:Int)(n:Int):Fast×WH:=([(0,(.int .i64 n)),(4,(.int .i64 x1))],[])
def vK(x1:Int)(n:Int):Bool→Ex×Fast×WH:=λe=>(.normal,[(0,(.int .i64 n)),(4,(.int .i64 x1)),(5,(.bool e))],[])
def mX(x1:Int)(n:Int):Option (Bool) :=
 cond (x1==0) (some true) (cond (x1==1) (some true) (some (x1==2)))
theorem zC(d:Nat){x1:Int}{n:Int}{r:Bool}(h:mX x1 n=some r):qY (bW (dx fP (d+0)) KK 35 vg) 0 (xY x1 n) (vK x1 n r):=by
 unfold mX at h
 exact qh nB vJ h (.br 5 (λ_=>E0 [0,4,5]) λ_=>.br 5 (λ_=>E0 [0,4,5]) λ_=>E0 [0,4,5])
def vk(n:Int):Option (Int) :=
 (dM n 7).bind λ(x1:Int)=>(mX x1 n).bind λ(x2:Bool)=>cond x2 ((dM (IntKind.i64.wrap (Int.tdiv n 7)) 40).bind λ(x3:Int)=>some x3) (cond (x1==3) ((dM (IntKind.i64.wrap (Int.tdiv n 7)) 63).bind λ(x4:Int)=>(Ew .i64 1 (IntKind.u64.wrap x4)).bind λ(x5:Int)=>(dM (IntKind.i64.wrap (Int.tdiv n 441)) 3).bind λ(x6:Int)=>some (IntKind.i64.wrap (x5-x6))) (cond (x1==4) ((dM (IntKind.i64.wrap (Int.tdiv n 7)) 3).bind λ(x7:Int)=>some (IntKind.i64.wrap (4611686018427387903-x7))) (cond (x1==5) ((dM (IntKind.i64.wrap (Int.tdiv n 7)) 1000).bind λ(x8:Int)=>some x8) (some n))))
def vo(n:Int)(r:Int):AV×WH:=((.int .i64 r),[])
theorem ER(d:Nat){n:Int}{r:Int}(h:vk n=some r):Spec (dx fP (d+2)) 63 [(.int .i64 n)] [] (vo n r).1 (vo n r).2:=by
 unfold vk at h
 exact l7 nB Kv h (.bd λx1 q1=>Ak (fJ (d+0) q1)<|.bd λx2 q2=>Jn [0,4] [none,none] [] [] (zC (d+1) q2)<|.br 5 (λ_=>.bd λx3 q3=>Ak (fJ (d+0) q3)<|Fn Fo [] none) λ_=>.br 12 (λ_=>.bd λx4 q4=>Ak (fJ (d+0) q4)<|.bd λx5 q5=>.v 18 (.int .i64 x5)<|.ob (Iq q5:zJ .shl (.int .i64 1) (.int .u64 (IntKind.u64.wrap x4))=some (.int .i64 x5))<|.bd λx6 q6=>Ak (fJ (d+0) q6)<|Fn Fo [] none) λ_=>.br 23 (λ_=>.bd λx7 q7=>Ak (fJ (d+0) q7)<|Fn Fo [] none) λ_=>.br 29 (λ_=>.bd λx8 q8=>Ak (fJ (d+0) q8)<|Fn Fo [] none) λ_=>Fn Fo [] none)
def fK(jV:aO):Option (aF) :=
 (dM jV.Client 7).bind λ(x1:Int)=>(dM jV.Seq 12).bind λ(x2:Int)=>(dM jV.Why 7).bind λ(x3:Int)=>(oI jV.Value).bind λ(x4:List UInt8)=>(dM jV.Seq 13).bind λ(x5:Int)=>cond (x5==12) ((vk (IntKind.i64.wrap (Int.tdiv jV.Seq 13))).bind λ(x6:Int)=>some (⟨(IntKind.i64.wrap (x1-1)),x6,(⟨x3,x4⟩:bF)⟩:aF)) (some (⟨(IntKind.i64.wrap (x1-1)),(IntKind.i64.wrap (x2-1)),(⟨x3,x4⟩:bF)⟩:aF))
def jW(jV:aO)(r:aF):AV×WH:=((.agg (bZ r)),[])
theorem qm(d:Nat){jV:aO}{r:aF}(h:fK jV=some r):Spec (dx fP (d+3)) 12 [(.agg (fu jV))] [] (jW jV r).1 (jW jV r).2:=by
 unfold fK at h
 exact l7 nB Kn h (.bd λx1 q1=>Ak (fJ (d+1) q1)<|.bd λx2 q2=>Ak (fJ (d+1) q2)<|.bd λx3 q3=>Ak (fJ (d+1) q3)<|.bd λx4 q4=>Ak (Aq (d+0) q4)<|.st none<|.bd λx5 q5=>Ak (fJ (d+1) q5)<|.br 23 (λ_=>.bd λx6 q6=>Ak (ER (d+0) q6)<|.st none<|.st none<|Fn Fo [] none) λ_=>.st none<|Fn Fo [] none)
abbrev kN(jV:aF)(iN:aB):Fast×WH:=([(0,(.ptr (some (0,0)))),(3,(.ptr (some (1,0))))],[(some (.cells (aT iN) false false)),(some (.cells (bZ jV) false false))])
def ku(jV:aF)(iN:aB):Unit⊕Unit→Ex×Fast×WH:=fun
 |.inl e=>(.ret,[(4,(.bool false))],[(some (.cells (aT iN) false false))])
 |.inr e=>(.normal,[(0,(.ptr (some (0,0)))),(3,(.ptr (some (1,0))))],[(some (.cells (aT iN) false false)),(some (.cells (bZ jV) false false))])
def bA(jV:aF)(iN:aB):Option (Unit⊕Unit) :=
 cond (decide (jV.Client<0)) (some (.inl ())) (cond (decide (jV.Client≥4)) (some (.inl ())) (cond (decide (jV.Seq<1)) (some (.inl ())) ((kr (iN.l.xZ) jV.Client).bind λ(x1:aF)=>cond (decide (jV.Seq≤x1.Seq)) (some (.inl ())) (some (.inr ())))))
theorem gX(d:Nat){jV:aF}{iN:aB}{r:Unit⊕Unit}(h:bA jV iN=some r):qY (bW (dx fP (d+0)) KK 38 BF) 1 (kN jV iN) (ku jV iN r):=by
 unfold bA at h
 exact qh nB Am h (.br 8 (λ_=>E0 [4]) λ_=>.br 13 (λ_=>E0 [4]) λ_=>.br 18 (λ_=>E0 [4]) λ_=>.bd λx1 q1=>.v 26 (.ptr (some (0,0+jV.Client.toNat*4)))<|.ob (Ez q1 rfl:wP (.iB 4 4 (.c (.ptr (some (0,0)))) (.c (.int .i64 jV.Client)))=some (.ptr (some (0,0+jV.Client.toNat*4))))<|.v 28 (.int .i64 x1.Seq)<|.ob (Ir (p:=0) (o:=1) jH q1 rfl rfl:jQ false (0+jV.Client.toNat*4+1) 1 (aT iN)=some (.int .i64 x1.Seq))<|.br 30 (λ_=>E0 [4]) λ_=>E0 [0,3])
def aW(jV:aF)(iN:aB):Option (Bool×aB) :=
 (bA jV iN).bind λ(x2:Unit⊕Unit)=>cond (zO x2) (some (false,iN)) ((kr (iN.l.xZ) jV.Client).bind λ(x4:aF)=>some (true,(⟨(iN.l.set jV.Client jV)⟩:aB)))
def iA(jV:aF)(iN:aB)(r:Bool×aB):AV×WH:=((.bool r.1),[(some (.cells (aT r.2) false false))])
theorem fM(d:Nat){jV:aF}{iN:aB}{r:Bool×aB}(h:aW jV iN=some r):Spec (dx fP (d+1)) 13 [(.ptr (some (0,0))),(.agg (bZ jV))] [(some (.cells (aT iN) false false))] (iA jV iN r).1 (iA jV iN r).2:=by
 unfold aW at h
 exact l7 nB Ko h (.sk<|.bd λx2 q2=>.ite (λhb3=>Jn [0,3] [none,none] [] [] (G9 (il hb3) (gX (d+0) q2))<|Fn Fo [] none) λhb3=>Jn [0,3] [none,none] [] [] (G9 (JR hb3) (gX (d+0) q2))<|.bd λx4 q4=>.v 37 (.ptr (some (0,0+jV.Client.toNat*4)))<|.ob (Ez q4 rfl:wP (.iB 4 4 (.c (.ptr (some (0,0)))) (.c (.int .i64 jV.Client)))=some (.ptr (some (0,0+jV.Client.toNat*4))))<|.st (some (aT (⟨(iN.l.set jV.Client jV)⟩:aB)))<|.ob (Iu (p:=0) (o:=0) jH q4 (A4.F4 _ q4) rfl (Nat.le_of_ble_eq_true rfl) rfl rfl:zI (aT iN) (0+jV.Client.toNat*4) [(.int .i64 jV.Client),(.int .i64 jV.Seq),(.int .i64 jV.Answer.Why),(.str jV.Answer.Value)]=some (aT (⟨(iN.l.set jV.Client jV)⟩:aB)))<|Fn Fo [] none)
def dA(iN:aB)(s5:Int×List aF):List AV×WH:=([(.acc 1 0 4 s5.2.length true),(.agg (aT iN)),(.int .i64 s5.1)],[(some (.cells (aT iN) false false)),(some (.cells (lu s5.2) false true))])
def dY(iN:aB):(List aF)→Ex×Fast×WH:=λe=>((.exit 0),[(3,(.acc 1 0 4 e.length true))],[(some (.cells (aT iN) false false)),(some (.cells (lu e) false true))])
abbrev lG(iN:aB):=qj [3,9,10] (dA iN) (dY iN)
def bK(iN:aB)(s5:Int×List aF):Option ((Int×List aF)⊕((List aF))) :=
 cond (decide (s5.1<4)) ((kr ([iN.l.a0,iN.l.a1,iN.l.a2,iN.l.a3]:List aF) s5.1).bind λ(x6:aF)=>cond (decide (x6.Seq>0)) (gd (pK 40 (s5.2++[x6]).length) (some (.inl ((IntKind.i64.wrap (s5.1+1)),(s5.2++[x6]))))) (some (.inl ((IntKind.i64.wrap (s5.1+1)),s5.2)))) (some (.inr s5.2))
def dN(iN:aB)(s5:Int×List aF):Option ((List aF)):=l8 (bK iN) KK s5
theorem lK(d:Nat){iN:aB}{s5:Int×List aF}{r:(Int×List aF)⊕((List aF))}(h:bK iN s5=some r):qY (bW (dx fP (d+0)) KK 23 Ao) 1 (IY [3,9,10] (dA iN s5)) (lG iN r):=by
 unfold bK at h
 exact qh nB CK h (.br 11 (λ_=>.bd λx6 q6=>.v 12 (.agg (bZ x6))<|.ob (Iw jH q6:wP (.index true 4 4 (.c (.agg (lu ([iN.l.a0,iN.l.a1,iN.l.a2,iN.l.a3])))) (.c (.int .i64 s5.1)))=some (.agg (bZ x6)))<|.st none<|.br 15 (λ_=>.gd λq7=>Ap jH 19 q7<|E1 [3,9,10] [none,none,none] [] [.slice none 4 0 0 true,.undef,.undef]) λ_=>E1 [3,9,10] [none,none,none] [] [.slice none 4 0 0 true,.undef,.undef]) λ_=>E1 [3] [none] [] [.slice none 4 0 0 true])
theorem lM(d:Nat){iN:aB}{s5:Int×List aF}{r:(List aF)}(h:dN iN s5=some r):qY (nO (bW (dx fP (d+0)) KK 23 Ao) [3,9,10] KK) 1 (IY [3,9,10] (dA iN s5)) (dY iN r) :=
 tY (st:=dA iN) (fin:=dY iN) (step:=bK iN) (λe=>by(intro h;cases h)) (λs x h=>lK d h) KK s5 r h
def cZ(iN:aB):Option (List aF) :=
 (dN iN (0,[])).bind λ(x8:(List aF))=>some x8
def iL(iN:aB)(r:List aF):AV×WH:=((lC r),[(some (.cells (aT iN) false false))])
theorem jq(d:Nat){iN:aB}{r:List aF}(h:cZ iN=some r):Spec (dx fP (d+2)) 14 [(.ptr (some (0,0)))] [(some (.cells (aT iN) false false))] (iL iN r).1 (iL iN r).2:=by
 unfold cZ at h
 exact l7 (JF _) Kq h (.z 2 [.slice none 4 0 0 true]<|.z 3 [.slice none 4 0 0 true]<|.bd λx8 q8=>Lp [Tw,none,none] [] [.slice none 4 0 0 true,.undef,.undef] (lM (d+1) q8)<|Fn Fo [.slice none 4 0 0 true] none)
def gL :Option (Bool) :=
 (aW (⟨1,3,(⟨0,([]:List UInt8)⟩:bF)⟩:aF) (⟨(⟨(⟨0,0,(⟨0,([]:List UInt8)⟩:bF)⟩:aF),(⟨0,0,(⟨0,([]:List UInt8)⟩:bF)⟩:aF),(⟨0,0,(⟨0,([]:List UInt8)⟩:bF)⟩:aF),(⟨0,0,(⟨0,([]:List UInt8)⟩:bF)⟩:aF)⟩:A4 aF)⟩:aB)).bind λ(x1:Bool×aB)=>(aW (⟨1,3,(⟨0,([]:List UInt8)⟩:bF)⟩:aF) x1.2).bind λ(x2:Bool×aB)=>cond x1.1 (cond (!x2.1) ((cZ x2.2).bind λ(x3:List aF)=>some ((x3.length:Int)==1)) (some false)) (some false)
def jC(r:Bool):AV×WH:=((.bool r),[])
theorem pq(d:Nat) {r:Bool}(h:gL=some r):Spec (dx fP (d+3)) 15 [] [] (jC r).1 (jC r).2:=by
 unfold gL at h
 exact l7 nB Kr h (.st none<|.st none<|.bd λx1 q1=>Cl [] Fo [] (fM (d+1) q1)<|.bd λx2 q2=>Cl [] Fo [] (fM (d+1) q2)<|.br 12 (λ_=>.br 16 (λ_=>.bd λx3 q3=>Cl [] Fo [] (jq (d+0) q3)<|Fn Fo [] none) λ_=>Fn Fo [] none) λ_=>Fn Fo [] none)
abbrev jX(x8:aF)(s6:Int×aB×(List (Int×aF)))(calls:List aO):Fast×WH:=([(3,(.ptr (some (0,0)))),(4,(.map (some 1))),(7,(.ptr (some (2,0)))),(14,(fA calls)),(15,(.int .i64 (calls.length:Int))),(16,(.int .i64 s6.1))],[(some (.cells (aT s6.2.1) false false)),(some (.map (bP s6.2.2))),(some (.cells (bZ x8) false false))])
def jI(x8:aF)(s6:Int×aB×(List (Int×aF)))(calls:List aO):Bool→Ex×Fast×WH:=λe=>(.normal,[(3,(.ptr (some (0,0)))),(4,(.map (some 1))),(7,(.ptr (some (2,0)))),(8,(.bool e)),(14,(fA calls)),(15,(.int .i64 (calls.length:Int))),(16,(.int .i64 s6.1))],[(some (.cells (aT s6.2.1) false false)),(some (.map (bP s6.2.2))),(some (.cells (bZ x8) false false))])
def bX(x8:aF)(s6:Int×aB×(List (Int×aF)))(calls:List aO):Option (Bool) :=
 cond (decide (x8.Client≥0)) (cond (decide (x8.Client<4)) ((some ((nJ s6.2.2 x8.Client).getD (⟨0,0,(⟨0,([]:List UInt8)⟩:bF)⟩:aF))).bind λ(x9:aF)=>some (decide (x8.Seq>x9.Seq))) (some false)) (some false)
theorem kC(d:Nat){x8:aF}{s6:Int×aB×(List (Int×aF))}{calls:List aO}{r:Bool}(h:bX x8 s6 calls=some r):qY (bW (dx fP (d+0)) KK 89 lF) 0 (jX x8 s6 calls) (jI x8 s6 calls r):=by
 unfold bX at h
 exact qh nB nY h (.br 25 (λ_=>.br 30 (λ_=>.bd λx9 q9=>.v 36 (.agg (bZ x9))<|.ob (Js Ii eD q9:wu .i false (eD (⟨0,0,(⟨0,([]:List UInt8)⟩:bF)⟩:aF)) (.int .i64 x8.Client) (bP s6.2.2)=some (.agg (bZ x9)))<|E1 [3,4,7,8,14,15,16] [none,none,none,none,none,none,none] [] [.undef,.undef,.undef,.undef,.slice none 4 0 0 true,.undef,.undef]) λ_=>E1 [3,4,7,8,14,15,16] [none,none,none,none,none,none,none] [] [.undef,.undef,.undef,.undef,.slice none 4 0 0 true,.undef,.undef]) λ_=>E1 [3,4,7,8,14,15,16] [none,none,none,none,none,none,none] [] [.undef,.undef,.undef,.undef,.slice none 4 0 0 true,.undef,.undef])
def b_(calls:List aO)(s6:Int×aB×(List (Int×aF))):List AV×WH:=([(.ptr (some (0,0))),(.map (some 1)),(fA calls),(.int .i64 (calls.length:Int)),(.int .i64 s6.1)],[(some (.cells (aT s6.2.1) false false)),(some (.map (bP s6.2.2)))])
def dH(calls:List aO):Unit⊕(aB×(List (Int×aF)))→Ex×Fast×WH:=fun
 |.inl e=>(.ret,[(2,(.bool false))],[])
 |.inr e=>((.exit 0),[(3,(.ptr (some (0,0)))),(4,(.map (some 1)))],[(some (.cells (aT e.1) false false)),(some (.map (bP e.2)))])
abbrev jY(calls:List aO):=qj [3,4,14,15,16] (b_ calls) (dH calls)
def bM(calls:List aO)(s6:Int×aB×(List (Int×aF))):Option ((Int×aB×(List (Int×aF)))⊕(Unit⊕(aB×(List (Int×aF))))) :=
 cond (decide (s6.1<(calls.length:Int))) ((kr calls s6.1).bind λ(x7:aO)=>(fK x7).bind λ(x8:aF)=>(bX x8 s6 calls).bind λ(x10:Bool)=>(aW x8 s6.2.1).bind λ(JU:Bool×aB)=>cond (!(JU.1==x10)) (some (.inr (.inl ()))) (cond x10 (some (.inl ((IntKind.i64.wrap (s6.1+1)),JU.2,(nK s6.2.2 x8.Client (x8:aF))))) (some (.inl ((IntKind.i64.wrap (s6.1+1)),JU.2,s6.2.2))))) (some (.inr (.inr (s6.2.1,s6.2.2))))
def dB(calls:List aO)(s6:Int×aB×(List (Int×aF))):Option (Unit⊕(aB×(List (Int×aF)))):=l8 (bM calls) KK s6
theorem kD(d:Nat){calls:List aO}{s6:Int×aB×(List (Int×aF))}{r:(Int×aB×(List (Int×aF)))⊕(Unit⊕(aB×(List (Int×aF))))}(h:bM calls s6=some r):qY (bW (dx fP (d+3)) KK 89 EF) 0 (IY [3,4,14,15,16] (b_ calls s6)) (jY calls r):=by
 unfold bM at h
 exact qh nB EG h (.br 17 (λ_=>.bd λx7 q7=>Ix mh 18 q7<|.st none<|.bd λx8 q8=>Ak (qm (d+0) q8)<|.st none<|.bd λx10 Lu=>Jn [3,4,7,14,15,16] [none,none,none,none,none,none] [] [.undef,.undef,.undef,.slice none 4 0 0 true,.undef,.undef] (kC (d+3) Lu)<|.bd λJU Lv=>Cl [] Fo [] (fM (d+2) Lv)<|.br 43 (λ_=>E0 [2]) λ_=>.br 44 (λ_=>.mp (bP (nK s6.2.2 x8.Client (x8:aF)))<|.ob (Jt Ii eD _ _ _:wo .i (.int .i64 x8.Client) (eD (x8:aF)) (bP s6.2.2)=some (bP (nK s6.2.2 x8.Client (x8:aF))))<|E1 [3,4,14,15,16] [none,none,none,none,none] [] [.undef,.undef,.slice none 4 0 0 true,.undef,.undef]) λ_=>E1 [3,4,14,15,16] [none,none,none,none,none] [] [.undef,.undef,.slice none 4 0 0 true,.undef,.undef]) λ_=>E0 [3,4])
theorem gH(d:Nat){calls:List aO}{s6:Int×aB×(List (Int×aF))}{r:Unit⊕(aB×(List (Int×aF)))}(h:dB calls s6=some r):qY (nO (bW (dx fP (d+3)) KK 89 EF) [3,4,14,15,16] KK) 0 (IY [3,4,14,15,16] (b_ calls s6)) (dH calls r) :=
 tY (st:=b_ calls) (fin:=dH calls) (step:=bM calls) (λe=>by rcases e with e | e<;>(intro h;cases h)) (λs x h=>kD d h) KK s6 r h
abbrev jZ(nT:List aF)(mY:Unit⊕(aB×(List (Int×aF)))):Fast×WH:=([(4,(.map (some 0))),(9,(lC nT))],[(some (.map (bP (o_ mY).2)))])
def jJ(nT:List aF)(mY:Unit⊕(aB×(List (Int×aF)))):Unit⊕Unit→Ex×Fast×WH:=fun
 |.inl e=>(.ret,[(2,(.bool false))],[])
 |.inr e=>(.normal,[(4,(.map (some 0))),(9,(lC nT))],[(some (.map (bP (o_ mY).2)))])
def bY(nT:List aF)(mY:Unit⊕(aB×(List (Int×aF)))):Option (Unit⊕Unit) :=
 (gL).bind λ(KS:Bool)=>cond (!KS) (some (.inl ())) (cond ((nT.length:Int) != ((o_ mY).2.length:Int)) (some (.inl ())) (some (.inr ())))
theorem gI(d:Nat){nT:List aF}{mY:Unit⊕(aB×(List (Int×aF)))}{r:Unit⊕Unit}(h:bY nT mY=some r):qY (bW (dx fP (d+3)) KK 89 u_) 0 (jZ nT mY) (jJ nT mY r):=by
 unfold bY at h
 exact qh nB vI h (.bd λKS Lx=>Ak (pq (d+0) Lx)<|.br 53 (λ_=>E0 [2]) λ_=>.v 57 (.int .i64 ((o_ mY).2.length:Int))<|.ob (Ju _ _ _:@Eq (Option AV) (some (.int .i64 (bP (o_ mY).2).length)) (some (.int .i64 ((o_ mY).2.length:Int))))<|.br 59 (λ_=>E0 [2]) λ_=>E1 [4,9] [none,none] [] [.undef,.slice none 4 0 0 true])
def cu(nT:List aF)(mY:Unit⊕(aB×(List (Int×aF))))(zD:Int):List AV×WH:=([(.map (some 0)),(lC nT),(lC nT),(.int .i64 (nT.length:Int)),(.int .i64 zD)],[(some (.map (bP (o_ mY).2)))])
def dI(nT:List aF)(mY:Unit⊕(aB×(List (Int×aF)))):Unit⊕Unit→Ex×Fast×WH:=fun
 |.inl e=>(.ret,[(2,(.bool false))],[])
 |.inr e=>((.exit 2),[],[])
abbrev j5(nT:List aF)(mY:Unit⊕(aB×(List (Int×aF)))):=qj [4,9,60,61,62] (cu nT mY) (dI nT mY)
def bG(nT:List aF)(mY:Unit⊕(aB×(List (Int×aF))))(zD:Int):Option ((Int)⊕(Unit⊕Unit)) :=
 cond (decide (zD<(nT.length:Int))) ((kr nT zD).bind λ(He:aF)=>(some ((nJ (o_ mY).2 He.Client).getD (⟨0,0,(⟨0,([]:List UInt8)⟩:bF)⟩:aF))).bind λ(x23:aF)=>cond (!(x23.Client==He.Client&&(x23.Seq==He.Seq&&(x23.Answer.Why==He.Answer.Why&&(x23.Answer.Value==He.Answer.Value&&true))))) (some (.inr (.inl ()))) (cond (decide (zD>0)) ((kr nT (IntKind.i64.wrap (zD-1))).bind λ(x24:aF)=>cond (decide (x24.Client≥He.Client)) (some (.inr (.inl ()))) (some (.inl (IntKind.i64.wrap (zD+1))))) (some (.inl (IntKind.i64.wrap (zD+1)))))) (some (.inr (.inr ())))
def dD(nT:List aF)(mY:Unit⊕(aB×(List (Int×aF))))(zD:Int):Option (Unit⊕Unit):=l8 (bG nT mY) KK zD
theorem kE(d:Nat){nT:List aF}{mY:Unit⊕(aB×(List (Int×aF)))}{zD:Int}{r:(Int)⊕(Unit⊕Unit)}(h:bG nT mY zD=some r):qY (bW (dx fP (d+0)) KK 89 EH) 0 (IY [4,9,60,61,62] (cu nT mY zD)) (j5 nT mY r):=by
 unfold bG at h
 exact qh nB EI h (.br 63 (λ_=>.bd λHe q22=>Ix jH 65 q22<|.st none<|.bd λx23 LA=>.v 70 (.agg (bZ x23))<|.ob (Js Ii eD LA:wu .i false (eD (⟨0,0,(⟨0,([]:List UInt8)⟩:bF)⟩:aF)) (.int .i64 He.Client) (bP (o_ mY).2)=some (.agg (bZ x23)))<|.br 73 (λ_=>E0 [2]) λ_=>.br 76 (λ_=>.bd λx24 q24=>Ix jH 80 q24<|.br 87 (λ_=>E0 [2]) λ_=>E1 [4,9,60,61,62] [none,none,none,none,none] [] [.undef,.slice none 4 0 0 true,.slice none 4 0 0 true,.undef,.undef]) λ_=>E1 [4,9,60,61,62] [none,none,none,none,none] [] [.undef,.slice none 4 0 0 true,.slice none 4 0 0 true,.undef,.undef]) λ_=>E0 [])
theorem gJ(d:Nat){nT:List aF}{mY:Unit⊕(aB×(List (Int×aF)))}{zD:Int}{r:Unit⊕Unit}(h:dD nT mY zD=some r):qY (nO (bW (dx fP (d+0)) KK 89 EH) [4,9,60,61,62] KK) 0 (IY [4,9,60,61,62] (cu nT mY zD)) (dI nT mY r) :=
 tY (st:=cu nT mY) (fin:=dI nT mY) (step:=bG nT mY) (λe=>by rcases e with e | e<;>(intro h;cases h)) (λs x h=>kE d h) KK zD r h
def dO(calls:List aO):Option (Bool) :=
 (dB calls (0,(⟨(⟨(⟨0,0,(⟨0,([]:List UInt8)⟩:bF)⟩:aF),(⟨0,0,(⟨0,([]:List UInt8)⟩:bF)⟩:aF),(⟨0,0,(⟨0,([]:List UInt8)⟩:bF)⟩:aF),(⟨0,0,(⟨0,([]:List UInt8)⟩:bF)⟩:aF)⟩:A4 aF)⟩:aB),([]:List (Int×aF)))).bind λ(mY:Unit⊕(aB×(List (Int×aF))))=>cond (zO mY) (some false) ((cZ (o_ mY).1).bind λ(nT:List aF)=>(bY nT mY).bind λ(KT:Unit⊕Unit)=>cond (zO KT) (some false) ((dD nT mY 0).bind λ(x25:Unit⊕Unit)=>cond (zO x25) (some false) (some true)))
def gM(calls:List aO)(r:Bool):AV×WH:=((.bool r),[])
theorem lN(d:Nat){calls:List aO}{r:Bool}(h:dO calls=some r):Spec (dx fP (d+4)) 3 [(fA calls)] [] (gM calls r).1 (gM calls r).2:=by
 unfold dO at h
 exact l7 nB Lr h (.st none<|.bd λmY KU=>.ite (λIG=>Lp [none,none,none,none,none] [] [.undef,.undef,.slice none 4 0 0 true,.undef,.undef] (G9 (il IG) (gH (d+0) KU))<|Fn Fo [] none) λIG=>Lp [none,none,none,none,none] [] [.undef,.undef,.slice none 4 0 0 true,.undef,.undef] (G9 (JR IG) (gH (d+0) KU))<|.bd λnT LB=>Cl [] Fo [] (jq (d+1) LB)<|.bd λKT q16=>.ite (λII=>Jn [4,9] [none,none] [] [.undef,.slice none 4 0 0 true] (G9 (il II) (gI (d+0) q16))<|Fn Fo [] none) λII=>Jn [4,9] [none,none] [] [.undef,.slice none 4 0 0 true] (G9 (JR II) (gI (d+0) q16))<|.bd λx25 KV=>.ite (λIJ=>Lp [none,none,none,none,none] [] [.undef,.slice none 4 0 0 true,.slice none 4 0 0 true,.undef,.undef] (G9 (il IJ) (gJ (d+3) KV))<|Fn Fo [] none) λIJ=>Lp [none,none,none,none,none] [] [.undef,.slice none 4 0 0 true,.slice none 4 0 0 true,.undef,.undef] (G9 (JR IJ) (gJ (d+3) KV))<|Fn Fo [] none)
theorem vv(n:Int)(m:Nat)(hm:0<m)(hm2:m<1000000000000):∃k:Nat,dM n (m:Int)=some (k:Int)∧k<m:=by
 have h1:=Int.emod_nonneg n (by omega:(m:Int)≠0)
 have h2:=Int.emod_lt_of_pos n (by omega:(0:Int)<(m:Int))
 refine⟨(n%(m:Int)).toNat, ?_,by omega⟩
 rw[Int.toNat_of_nonneg h1]
 unfold dM FV
 rw[if_neg (by omega),aC]
 have e1:=Int.tmod_add_mul_tdiv n m
 by_cases h:0≤n.tmod m
 ·rw[iX (by omega),cond_false]
  congr 1
  have e2:n.tmod m<m:=Int.tmod_lt_of_pos n (by omega)
  have e3:n%m=(n.tmod m)%m:=by
   conv=>lhs;rw[←e1]
   rw[Int.add_mul_emod_self_left]
  rw[e3,Int.emod_eq_of_lt h e2]
 ·have e2:-(m:Int)<n.tmod m:=Int.lt_tmod_of_pos n (by omega)
  rw[mo (by omega),cond_true,oV (by omega) (by omega)]
  congr 1
  have e3:n%m=(n.tmod m+m)%m:=by
   conv=>lhs;rw[←e1]
   rw[Int.add_mul_emod_self_left,Int.add_emod_right]
  rw[e3,Int.emod_eq_of_lt (by omega) (by omega)]
theorem Ar(n:Int):∃v,oI n=some v:=by
 obtain⟨k,hk,h⟩:=vv n 6 (by omega) (by omega)
 unfold oI
 rw[show(6:Int)=((6:Nat):Int)from rfl,hk,aC,rz (by simpa using h),aC]
 exact⟨_,rfl⟩
theorem jr(n:Int)(m:Nat)(h:0<m)(h2:m<1000000000000):∃k,dM n (m:Int)=some k:=by
 obtain⟨k,hk,_⟩:=vv n m h h2
 exact⟨_,hk⟩
theorem ES(n:Int):∃v,vk n=some v:=by
 obtain⟨a,ha⟩:=jr n 7 (by omega) (by omega)
 obtain⟨b,hb⟩:=jr (IntKind.i64.wrap (Int.tdiv n 7)) 40 (by omega) (by omega)
 obtain⟨c,hc,hc2⟩:=vv (IntKind.i64.wrap (Int.tdiv n 7)) 63 (by omega) (by omega)
 obtain⟨d,hd⟩:=jr (IntKind.i64.wrap (Int.tdiv n 441)) 3 (by omega) (by omega)
 obtain⟨e,he⟩:=jr (IntKind.i64.wrap (Int.tdiv n 7)) 3 (by omega) (by omega)
 obtain⟨f,hf⟩:=jr (IntKind.i64.wrap (Int.tdiv n 7)) 1000 (by omega) (by omega)
 have hs:Ew .i64 1 (IntKind.u64.wrap (c:Int))=some (IntKind.i64.wrap (1*2 ^ (min (IntKind.u64.wrap (c:Int)).toNat IntKind.i64.bits))):=by
  unfold Ew
  rw[if_neg (by have:=zB (c:Int);omega)]
 have hj:∃b,mX a n=some b:=by
  unfold mX
  cases (a==0)<;>cases (a==1)<;>exact⟨_,rfl⟩
 obtain⟨j,hj⟩:=hj
 unfold vk
 rw[show(7:Int)=((7:Nat):Int)from rfl,ha,aC,hj,aC]
 cases j
 ·rw[cond_false]
  cases (a==3)
  ·rw[cond_false]
   cases (a==4)
   ·rw[cond_false]
    cases (a==5)
    ·exact⟨_,rfl⟩
    ·rw[cond_true,show(1000:Int)=((1000:Nat):Int)from rfl,show((7:Nat):Int)=7 from rfl,hf]
     exact⟨_,rfl⟩
   ·rw[cond_true,show(3:Int)=((3:Nat):Int)from rfl,show((7:Nat):Int)=7 from rfl,he]
    exact⟨_,rfl⟩
  ·rw[cond_true,show(63:Int)=((63:Nat):Int)from rfl,show((7:Nat):Int)=7 from rfl,hc,aC,hs,aC,show(3:Int)=((3:Nat):Int)from rfl,hd]
   exact⟨_,rfl⟩
 ·rw[cond_true,show(40:Int)=((40:Nat):Int)from rfl,show((7:Nat):Int)=7 from rfl,hb]
  exact⟨_,rfl⟩
def gk(k:Int)(x:aF):Prop:=x.Seq=0∨(0<x.Seq∧x.Client=k)
def GoodS(s:aB):Prop:=gk 0 s.l.a0∧gk 1 s.l.a1∧gk 2 s.l.a2∧gk 3 s.l.a3
def gY(s:aB):List aF:=s.l.xZ.filter (λx=>decide (0<x.Seq))
def zF:aF:=⟨0,0,⟨0,[]⟩⟩
def ET:aB:=⟨⟨zF,zF,zF,zF⟩⟩
theorem CP{β:Type}{n:Nat}{x:Option β}(h:n<1000000):gd (pK 40 n) x=x:=F7 (by unfold pK;simp;omega)
theorem Gu(s:aB):(gY s).length≤4:=by
 unfold gY
 exact Nat.le_trans (List.length_filter_le _ _) (by simp[A4.xZ])
theorem zG{K V:Type} [DecidableEq K](k k':K)(v:V):∀l:List (K×V),nJ (nK l k v) k'=if k'=k then some v else nJ l k'
 | []=>by simp[nK,nJ]
 | p::r=>by
  by_cases h:k=p.1
  ·subst h
   simp only[nK,if_true,nJ]
   by_cases h':k'=p.1<;>simp[h']
  ·simp only[nK,if_neg h,nJ,zG k k' v r]
   by_cases h':k'=p.1
   ·have:k'≠k:=λe=>h (e.symm.trans h')
    simp[h',this,Ne.symm h]
   ·simp[h']
theorem zH{K V:Type} [DecidableEq K](k:K)(v:V):∀l:List (K×V),(nK l k v).length=if (nJ l k).isSome then l.length else l.length+1
 | []=>by simp[nK,nJ]
 | p::r=>by
  by_cases h:k=p.1
  ·simp[nK,nJ,h]
  ·simp only[nK,if_neg h,nJ,bV,zH k v r]
   split<;>rfl
def slot(s:aB)(c:Int):aF:=if c=0 then s.l.a0 else if c=1 then s.l.a1 else if c=2 then s.l.a2 else s.l.a3
def has(s:aB)(c:Int):Prop:=0≤c∧c<4∧0<(slot s c).Seq
instance (s:aB)(c:Int):Decidable (has s c):=by unfold has;infer_instance
def JG(s:aB)(b:List (Int×aF)):Prop:=(∀c,nJ b c=if has s c then some (slot s c)else none)∧b.length=(gY s).length
theorem BG(s:aB):(gY s).length=(if 0<s.l.a0.Seq then 1 else 0)+(if 0<s.l.a1.Seq then 1 else 0)+(if 0<s.l.a2.Seq then 1 else 0)+(if 0<s.l.a3.Seq then 1 else 0):=by
 unfold gY A4.xZ
 by_cases h0:0<s.l.a0.Seq<;>by_cases h1:0<s.l.a1.Seq<;>by_cases h2:0<s.l.a2.Seq<;>by_cases h3:0<s.l.a3.Seq<;>simp[h0,h1,h2,h3]
theorem EU(s:aB)(y:aF)(h1:0≤y.Client)(h2:y.Client<4)(c:Int)(hc1:0≤c)(hc2:c<4):slot ⟨s.l.set y.Client y⟩ c=if c=y.Client then y else slot s c:=by
 have hy:y.Client=0∨y.Client=1∨y.Client=2∨y.Client=3:=by omega
 have hc:c=0∨c=1∨c=2∨c=3:=by omega
 rcases hy with e | e | e | e<;>rcases hc with rfl | rfl | rfl | rfl<;>simp[slot,A4.set,e]
theorem CQ (y:aF) (s:aB) (hs:GoodS s):(∀c,has s c→(slot s c).Client=c)∧((¬(0≤y.Client∧y.Client<4∧1≤y.Seq∧(slot s y.Client).Seq<y.Seq)∧aW y s=some (false,s)) ∨
  ((0≤y.Client∧y.Client<4∧1≤y.Seq∧(slot s y.Client).Seq<y.Seq)∧aW y s=some (true,⟨s.l.set y.Client y⟩)∧GoodS ⟨s.l.set y.Client y⟩)):=by
 have sl:∀c,has s c→(slot s c).Client=c:=by
  intro c hc
  obtain⟨h1,h2,h3⟩:=hc
  have:c=0∨c=1∨c=2∨c=3:=by omega
  obtain⟨g0,g1,g2,g3⟩:=hs
  rcases this with rfl | rfl | rfl | rfl
  ·rcases g0 with g | g
   ·simp only[slot,if_true]at h3;omega
   ·exact g.2
  ·rcases g1 with g | g
   ·simp[slot]at h3;omega
   ·exact g.2
  ·rcases g2 with g | g
   ·simp[slot]at h3;omega
   ·exact g.2
  ·rcases g3 with g | g
   ·simp[slot]at h3;omega
   ·exact g.2
 refine⟨sl, ?_⟩
 by_cases h1:y.Client<0
 ·exact .inl ⟨by omega,by unfold aW bA;rw[mo h1];rfl⟩
 by_cases h2:y.Client≥4
 ·exact .inl ⟨by omega,by unfold aW bA;rw[iX h1,mo h2];rfl⟩
 by_cases h3:y.Seq<1
 ·exact .inl ⟨by omega,by unfold aW bA;rw[iX h1,iX h2,mo h3];rfl⟩
 have hy:y.Client=0∨y.Client=1∨y.Client=2∨y.Client=3:=by omega
 have ha:kr s.l.xZ y.Client=some (slot s y.Client):=by
  rcases hy with e | e | e | e<;>rw[e]<;>rfl
 by_cases h4:y.Seq≤(slot s y.Client).Seq
 ·exact .inl ⟨by omega,by unfold aW bA;rw[iX h1,iX h2,iX h3,ha];simp only[cond_false,aC];rw[mo h4];rfl⟩
 ·refine .inr ⟨by omega, ?_, ?_⟩
  ·unfold aW bA
   rw[iX h1,iX h2,iX h3,ha]
   simp only[cond_false,aC]
   rw[iX h4]
   rfl
  ·obtain⟨g0,g1,g2,g3⟩:=hs
   have hp:0<y.Seq:=by omega
   rcases hy with e | e | e | e<;>rw[e]
   ·exact⟨.inr ⟨hp,e⟩,g1,g2,g3⟩
   ·exact⟨g0,.inr ⟨hp,e⟩,g2,g3⟩
   ·exact⟨g0,g1,.inr ⟨hp,e⟩,g3⟩
   ·exact⟨g0,g1,g2,.inr ⟨hp,e⟩⟩
theorem Gv{s:aB}{b:List (Int×aF)}(h:JG s b)(y:aF)(h1:0≤y.Client)(h2:y.Client<4)(h3:1≤y.Seq):JG ⟨s.l.set y.Client y⟩ (nK b y.Client y):=by
 obtain⟨m1,m2⟩:=h
 refine⟨λc=>?_, ?_⟩
 ·rw[zG,m1 c]
  by_cases hc:0≤c∧c<4
  ·have e:=EU s y h1 h2 c hc.1 hc.2
   by_cases e2:c=y.Client
   ·rw[if_pos e2,if_pos ⟨hc.1,hc.2,by rw[e,if_pos e2];omega⟩,e,if_pos e2]
   ·rw[if_neg e2]at e ⊢
    simp only[has,e]
  ·have e2:c≠y.Client:=λe=>hc (by omega)
   rw[if_neg e2,if_neg (λq=>hc ⟨q.1,q.2.1⟩),if_neg (λq=>hc ⟨q.1,q.2.1⟩)]
 ·rw[zH,m1,m2,BG,BG]
  have hy:y.Client=0∨y.Client=1∨y.Client=2∨y.Client=3:=by omega
  have hp:0<y.Seq:=by omega
  rcases hy with e | e | e | e<;>rw[e]<;>simp only[A4.set,has,slot]<;>simp[hp]
  ·by_cases q:0<s.l.a0.Seq<;>simp[q]<;>omega
  ·by_cases q:0<s.l.a1.Seq<;>simp[q]<;>omega
  ·by_cases q:0<s.l.a2.Seq<;>simp[q]<;>omega
  ·by_cases q:0<s.l.a3.Seq<;>simp[q]<;>omega
theorem EW(s:aB):cZ s=some (gY s):=by
 have run:dN s (0,[])=some (gY s):=by
  unfold dN
  have hl:s.l.xZ.length=4:=rfl
  have e0:((0:Int),([]:List aF))=(((0:Nat):Int),(s.l.xZ.take 0).filter (λx=>decide (0<x.Seq))):=rfl
  rw[e0]
  refine zA (λi=>((i:Int),(s.l.xZ.take i).filter (λx=>decide (0<x.Seq)))) 4 _ (λi hi=>?_) ?_ (by omega)
  ·have h6:=List.length_filter_le (λx:aF=>decide (0<x.Seq)) (s.l.xZ.take i)
   rw[bC]at h6
   unfold bK
   simp only
   rw[mo (by omega),cond_true,show([s.l.a0,s.l.a1,s.l.a2,s.l.a3]:List aF)=s.l.xZ from rfl,rz (by rw[hl];exact hi),aC,iO (by rw[hl];exact hi),List.filter_append,oV (by omega) (by omega),oW]
   by_cases q:0<(s.l.xZ[i]'(by rw[hl];exact hi)).Seq
   ·rw[mo q,cond_true,CP (by rw[aI,List.length_singleton];omega)]
    simp[q]
   ·rw[iX q,cond_false]
    simp[q]
  ·unfold bK
   rfl
 unfold cZ
 rw[run]
 rfl
theorem Gw{s:aB}(hs:GoodS s){x:aF}(hx:x∈gY s):has s x.Client∧slot s x.Client=x:=by
 unfold gY A4.xZ at hx
 simp only[List.mem_filter,List.mem_cons,List.not_mem_nil,or_false,decide_eq_true_eq]at hx
 obtain⟨hx,hp⟩:=hx
 obtain⟨g0,g1,g2,g3⟩:=hs
 rcases hx with rfl | rfl | rfl | rfl
 ·have:=g0.resolve_left (by omega);refine⟨⟨by omega,by omega, ?_⟩, ?_⟩<;>rw[this.2]<;>first | exact hp | rfl
 ·have:=g1.resolve_left (by omega);refine⟨⟨by omega,by omega, ?_⟩, ?_⟩<;>rw[this.2]<;>first | exact hp | rfl
 ·have:=g2.resolve_left (by omega);refine⟨⟨by omega,by omega, ?_⟩, ?_⟩<;>rw[this.2]<;>first | exact hp | rfl
 ·have:=g3.resolve_left (by omega);refine⟨⟨by omega,by omega, ?_⟩, ?_⟩<;>rw[this.2]<;>first | exact hp | rfl
theorem EX{s:aB}(hs:GoodS s):(gY s).Pairwise (λa b=>a.Client<b.Client):=by
 obtain⟨g0,g1,g2,g3⟩:=hs
 have r:∀ {k:Int} {x:aF},gk k x→0<x.Seq→x.Client=k:=λg h=>(g.resolve_left (by omega)).2
 have base:s.l.xZ.Pairwise (λa b=>0<a.Seq→0<b.Seq→a.Client<b.Client):=by
  unfold A4.xZ
  refine List.Pairwise.cons ?_ (List.Pairwise.cons ?_ (List.Pairwise.cons ?_ (List.Pairwise.cons ?_ List.Pairwise.nil)))
  ·intro b hb ha hb'
   simp only[List.mem_cons,List.not_mem_nil,or_false]at hb
   rcases hb with rfl | rfl | rfl
   ·rw[r g0 ha,r g1 hb'];decide
   ·rw[r g0 ha,r g2 hb'];decide
   ·rw[r g0 ha,r g3 hb'];decide
  ·intro b hb ha hb'
   simp only[List.mem_cons,List.not_mem_nil,or_false]at hb
   rcases hb with rfl | rfl
   ·rw[r g1 ha,r g2 hb'];decide
   ·rw[r g1 ha,r g3 hb'];decide
  ·intro b hb ha hb'
   simp only[List.mem_cons,List.not_mem_nil,or_false]at hb
   rcases hb with rfl
   rw[r g2 ha,r g3 hb'];decide
  ·intro b hb
   cases hb
 unfold gY
 refine(List.Pairwise.filter _ base).imp_of_mem λ{a b} ha hb h=>?_
 rw[List.mem_filter,decide_eq_true_eq]at ha hb
 exact h ha.2 hb.2
theorem IK:gL=some true:=by decide +kernel
theorem CS(x:aO):∃y,fK x=some y:=by
 obtain⟨x1,h1⟩:=jr x.Client 7 (by omega) (by omega)
 obtain⟨x2,h2⟩:=jr x.Seq 12 (by omega) (by omega)
 obtain⟨x3,h3⟩:=jr x.Why 7 (by omega) (by omega)
 obtain⟨x4,h4⟩:=Ar x.Value
 obtain⟨x5,h5⟩:=jr x.Seq 13 (by omega) (by omega)
 obtain⟨x6,h6⟩:=ES (IntKind.i64.wrap (Int.tdiv x.Seq 13))
 have h1:dM x.Client 7=some x1:=h1
 have h2:dM x.Seq 12=some x2:=h2
 have h3:dM x.Why 7=some x3:=h3
 have h5:dM x.Seq 13=some x5:=h5
 unfold fK
 simp only[h1,h2,h3,h4,h5,h6,aC]
 cases (x5==12)<;>exact⟨_,rfl⟩
theorem kF(x0:List aO)(o0:(KO lD) x0)(hb:(JA eF) x0≤1048576):dO x0=some true:=by
 have hl:x0.length≤1048576:=by have:=F3 (bk:=eF) (λx=>by unfold eF bk1;omega) x0;omega
 have l1:∃e,dB x0 (0,ET,[])=some e∧∃s b,e=.inr (s,b)∧GoodS s∧JG s b:=by
  refine wW (λ(s:Int×aB×List (Int×aF))=>x0.length-s.1.toNat) (λs=>∃(i:Nat) (t:aB) (b:List (Int×aF)),s=((i:Int),t,b)∧i≤x0.length∧GoodS t∧JG t b) (λ(e:Unit⊕(aB×List (Int×aF)))=>∃s b,e=.inr (s,b)∧GoodS s∧JG s b) ?_ KK _ ⟨0,ET,[],rfl,by omega,⟨.inl rfl,.inl rfl,.inl rfl,.inl rfl⟩,λc=>?_,rfl⟩ (by have:=Iy;simp only;omega)
  ·rintro s ⟨i,t,b,rfl,g1,g2,g3⟩
   simp only[bM]
   by_cases c:i<x0.length
   case neg =>
    right
    rw[iX (by omega),cond_false]
    exact⟨_,rfl,t,b,rfl,g2,g3⟩
   left
   obtain⟨y,hy⟩:=CS x0[i]
   rw[mo (by omega),cond_true,rz c,aC,hy,aC]
   obtain⟨_,n⟩:=CQ y t g2
   -- what may be
   have j0:bX y ((i:Int),t,b) x0=some (decide (0≤y.Client∧y.Client<4∧1≤y.Seq∧(slot t y.Client).Seq<y.Seq)):=by
    unfold bX
    by_cases h1:0≤y.Client
    case neg=>rw[iX (by omega),iX (show ¬(0≤y.Client∧y.Client<4∧1≤y.Seq∧(slot t y.Client).Seq<y.Seq)from λq=>h1 q.1)];rfl
    by_cases h2:y.Client<4
    case neg=>rw[mo (by omega),iX h2,iX (show ¬(0≤y.Client∧y.Client<4∧1≤y.Seq∧(slot t y.Client).Seq<y.Seq)from λq=>h2 q.2.1)];rfl
    rw[mo (by omega),mo h2,cond_true,cond_true,aC,g3.1 y.Client]
    congr 1
    rw[decide_eq_decide]
    have nn:0≤(slot t y.Client).Seq:=by
     have hy:y.Client=0∨y.Client=1∨y.Client=2∨y.Client=3:=by omega
     obtain⟨q0,q1,q2,q3⟩:=g2
     rcases hy with e | e | e | e<;>rw[e]
     ·show 0≤t.l.a0.Seq;rcases q0 with q | q<;>omega
     ·show 0≤t.l.a1.Seq;rcases q1 with q | q<;>omega
     ·show 0≤t.l.a2.Seq;rcases q2 with q | q<;>omega
     ·show 0≤t.l.a3.Seq;rcases q3 with q | q<;>omega
    by_cases hh:has t y.Client
    ·rw[if_pos hh]
     simp only[Option.getD_some]
     omega
    ·rw[if_neg hh]
     simp only[Option.getD_none]
     have:¬ 0<(slot t y.Client).Seq:=λq=>hh ⟨h1,h2,q⟩
     omega
   rw[j0,aC]
   rcases n with⟨n1,n2⟩ |⟨n1,n2,n3⟩
   ·rw[n2,aC,iX n1,oV (by omega) (by omega),oW]
    exact⟨_,rfl,⟨i+1,t,b,rfl,by omega,g2,g3⟩,by simp only;omega⟩
   ·rw[n2,aC,mo n1,oV (by omega) (by omega),oW]
    exact⟨_,rfl,⟨i+1,_,_,rfl,by omega,n3,Gv g3 y n1.1 n1.2.1 n1.2.2.1⟩,by simp only;omega⟩
  ·rw[if_neg]
   ·rfl
   ·rintro⟨h1,h2,h3⟩
    have hc:c=0∨c=1∨c=2∨c=3:=by omega
    rcases hc with rfl | rfl | rfl | rfl<;>simp[slot,ET,zF]at h3
 obtain⟨e,e1,s,b,rfl,hs,hm⟩:=l1
 have e1:dB x0 (0,(⟨(⟨(⟨0,0,(⟨0,([]:List UInt8)⟩:bF)⟩:aF),(⟨0,0,(⟨0,([]:List UInt8)⟩:bF)⟩:aF),(⟨0,0,(⟨0,([]:List UInt8)⟩:bF)⟩:aF),(⟨0,0,(⟨0,([]:List UInt8)⟩:bF)⟩:aF)⟩:A4 aF)⟩:aB),([]:List (Int×aF)))=some (.inr (s,b)):=e1
 unfold dO
 rw[e1,aC]
 simp only[zO,cond_false,o_]
 rw[EW,aC]
 have j2:bY (gY s) (.inr (s,b))=some (.inr ()):=by
  unfold bY
  rw[IK]
  simp only[o_,aC,Bool.not_true,cond_false]
  rw[JD (by rw[hm.2]),cond_false]
 rw[j2,aC]
 simp only[zO,cond_false]
 have la:=Gu s
 have l3:dD (gY s) (.inr (s,b)) 0=some (.inr ()):=by
  unfold dD
  refine zA (λi=>(i:Int)) (gY s).length _ (λi hi=>?_) ?_ (by omega)
  ·obtain⟨m1,m2⟩:=Gw hs (List.getElem_mem hi)
   unfold bG
   simp only[o_]
   rw[mo (by omega),cond_true,rz hi,aC,aC,hm.1,if_pos m1,m2]
   simp only[Option.getD_some]
   rw[show(!((gY s)[i].Client==(gY s)[i].Client&&((gY s)[i].Seq==(gY s)[i].Seq&&((gY s)[i].Answer.Why==(gY s)[i].Answer.Why&&((gY s)[i].Answer.Value==(gY s)[i].Answer.Value&&true)))))=false by simp,cond_false,oV (x:=(i:Int)+1) (by omega) (by omega),oW]
   by_cases h0:i=0
   ·subst h0
    rfl
   ·obtain⟨j,rfl⟩:∃j,i=j+1:=⟨i-1,by omega⟩
    have hj:j<(gY s).length:=by omega
    have:=(List.pairwise_iff_getElem.1 (EX hs)) j (j+1) hj hi (by omega)
    rw[mo (by omega),cond_true,oV (by omega) (by omega),show((j+1:Nat):Int)-1=(j:Int)by omega,rz hj,aC,iX (by omega),cond_false]
  ·unfold bG
   rw[iX (by omega),cond_false]
 rw[l3]
 rfl
end Go.Proofs.Ytkedeiklmpkgkaa
