import Derived.Test.YtohoggieaanllaaGreatXt
import Derived.Test.YtohoggieaanllaaGreatXs
import Derived.Test.YtohoggieaanllaaGreatY2
set_option linter.all false
set_option maxRecDepth 100000
namespace Go.Proofs.YtohoggieaanllaaGreat
abbrev aaD (dD:aU) (aQ:bA) (hosts:Int) (x1:Int) (x2:Int) (x3:Int) (x4:Int) (x5:Int) (x6:Int) (x7:Int) (x8:Int) (x9:Int) (x10:List UInt8) (bY:List aA):Fast×WH:=([(1,(.int .i64 hosts)),(2,(.ptr (some (0,0)))),(4,(.ptr (some (1,0)))),(5,(.ptr (some (2,0))))],[(some (.cells (dJ aQ) false false)),(some (.cells [(.int .i64 0),(.int .i64 0),(.int .i64 0),(.int .i64 0),(.int .i64 0),(.int .i64 0),(.int .i64 0),(.int .i64 0),(.bool false),(.int .i64 0),(.int .i64 0),(.int .i64 0),(.str ([]:List UInt8)),(.str ([]:List UInt8)),(.str ([]:List UInt8)),(.int .i64 0),(.str ([]:List UInt8)),(.slice none 1 0 0 true),(.slice none 5 0 0 true),(.int .i64 0),(.int .i64 0),(.slice none 2 0 0 true),(.slice none 4 0 0 true)] false false)),(some (.cells [(.int .i64 (IntKind.i64.wrap (1+x1))),(.int .i64 x2),(.int .i64 x3),(.int .i64 x4),(.int .i64 x5),(.int .i64 x6),(.int .i64 x7),(.int .i64 x8),(.bool aQ.dL),(.int .i64 dD.Client),(.int .i64 dD.Seq),(.int .i64 dD.Op.Kind),(.str dD.Op.Key),(.str dD.Op.Value),(.str dD.Op.Old),(.int .i64 x9),(.str x10),(.slice none 1 0 0 true),(.acc 3 0 5 bY.length true),(.int .i64 0),(.int .i64 0),(.slice none 2 0 0 true),(.slice none 4 0 0 true)] false false)),(some (.cells (aX bY) false true))])
def Yp (dD:aU) (aQ:bA) (hosts:Int) (x1:Int) (x2:Int) (x3:Int) (x4:Int) (x5:Int) (x6:Int) (x7:Int) (x8:Int) (x9:Int) (x10:List UInt8) (bY:List aA):(Int×Int×Int×List UInt8×List UInt8×List UInt8)→Ex×Fast×WH:=λe=>(.normal,[(1,(.int .i64 hosts)),(2,(.ptr (some (0,0)))),(4,(.ptr (some (1,0)))),(5,(.ptr (some (2,0))))],[(some (.cells (dJ aQ) false false)),(some (.cells [(.int .i64 0),(.int .i64 0),(.int .i64 0),(.int .i64 0),(.int .i64 0),(.int .i64 0),(.int .i64 0),(.int .i64 0),(.bool false),(.int .i64 0),(.int .i64 0),(.int .i64 0),(.str ([]:List UInt8)),(.str ([]:List UInt8)),(.str ([]:List UInt8)),(.int .i64 0),(.str ([]:List UInt8)),(.slice none 1 0 0 true),(.slice none 5 0 0 true),(.int .i64 0),(.int .i64 0),(.slice none 2 0 0 true),(.slice none 4 0 0 true)] false false)),(some (.cells [(.int .i64 (IntKind.i64.wrap (1+x1))),(.int .i64 x2),(.int .i64 x3),(.int .i64 x4),(.int .i64 x5),(.int .i64 x6),(.int .i64 x7),(.int .i64 x8),(.bool aQ.dL),(.int .i64 e.1),(.int .i64 e.2.1),(.int .i64 e.2.2.1),(.str e.2.2.2.1),(.str e.2.2.2.2.1),(.str e.2.2.2.2.2),(.int .i64 x9),(.str x10),(.slice none 1 0 0 true),(.acc 3 0 5 bY.length true),(.int .i64 0),(.int .i64 0),(.slice none 2 0 0 true),(.slice none 4 0 0 true)] false false)),(some (.cells (aX bY) false true))])
def OJ (dD:aU) (aQ:bA) (hosts:Int) (x1:Int) (x2:Int) (x3:Int) (x4:Int) (x5:Int) (x6:Int) (x7:Int) (x8:Int) (x9:Int) (x10:List UInt8) (bY:List aA):Option ((Int×Int×Int×List UInt8×List UInt8×List UInt8)) :=
 (ql dD).bind λ(qE:Bool)=>cond (!qE) ((bG aQ.ug 5).bind λ(m_:Int)=>cond (decide (m_ < 4)) (some (0,0,0,([]:List UInt8),([]:List UInt8),([]:List UInt8))) (some (dD.Client,dD.Seq,dD.Op.Kind,dD.Op.Key,dD.Op.Value,dD.Op.Old))) (some (dD.Client,dD.Seq,dD.Op.Kind,dD.Op.Key,dD.Op.Value,dD.Op.Old))
theorem ab6 (d:Nat) {dD:aU} {aQ:bA} {hosts:Int} {x1:Int} {x2:Int} {x3:Int} {x4:Int} {x5:Int} {x6:Int} {x7:Int} {x8:Int} {x9:Int} {x10:List UInt8} {bY:List aA} {r:(Int×Int×Int×List UInt8×List UInt8×List UInt8)} (h:OJ dD aQ hosts x1 x2 x3 x4 x5 x6 x7 x8 x9 x10 bY=some r):bN (aV (aF aH (d+3)) KK 154 Z0) 0 (aaD dD aQ hosts x1 x2 x3 x4 x5 x6 x7 x8 x9 x10 bY) (Yp dD aQ hosts x1 x2 x3 x4 x5 x6 x7 x8 x9 x10 bY r):=by
 unfold OJ at h
 exact bC nB Xz h (.bd λqE Yf=>iN (DR (d+0) Yf) <| .br 55 (λ_=>.bd λm_ ND=>iN (bJ (d+2) ND) <| .br 60 (λ_=>.st none <| E0 [1,2,4,5]) λ_=>E0 [1,2,4,5]) λ_=>E0 [1,2,4,5])
abbrev aaE (vD:Int×List Int) (aQ:bA) (hosts:Int) (x1:Int) (x2:Int) (x3:Int) (x4:Int) (x5:Int) (x6:Int) (x7:Int) (x8:Int) (bX:(Int×Int×Int×List UInt8×List UInt8×List UInt8)) (x9:Int) (x10:List UInt8) (bY:List aA):Fast×WH:=([(1,(.int .i64 hosts)),(2,(.ptr (some (0,0)))),(4,(.ptr (some (1,0)))),(5,(.ptr (some (2,0)))),(6,(.int .i64 vD.1))],[(some (.cells (dJ aQ) false false)),(some (.cells [(.int .i64 0),(.int .i64 0),(.int .i64 0),(.int .i64 0),(.int .i64 0),(.int .i64 0),(.int .i64 0),(.int .i64 0),(.bool false),(.int .i64 0),(.int .i64 0),(.int .i64 0),(.str ([]:List UInt8)),(.str ([]:List UInt8)),(.str ([]:List UInt8)),(.int .i64 0),(.str ([]:List UInt8)),(.acc 3 0 1 0 true),(.acc 4 0 5 0 true),(.int .i64 0),(.int .i64 0),(.acc 5 0 2 0 true),(.acc 6 0 4 0 true)] false false)),(some (.cells [(.int .i64 (IntKind.i64.wrap (1+x1))),(.int .i64 x2),(.int .i64 x3),(.int .i64 x4),(.int .i64 x5),(.int .i64 x6),(.int .i64 x7),(.int .i64 x8),(.bool aQ.dL),(.int .i64 bX.1),(.int .i64 bX.2.1),(.int .i64 bX.2.2.1),(.str bX.2.2.2.1),(.str bX.2.2.2.2.1),(.str bX.2.2.2.2.2),(.int .i64 x9),(.str x10),(.acc 7 0 1 vD.2.length true),(.acc 8 0 5 bY.length true),(.int .i64 0),(.int .i64 0),(.acc 9 0 2 0 true),(.acc 10 0 4 0 true)] false false)),(some (.cells (sF []) false true)),(some (.cells (aX []) false true)),(some (.cells (aD []) false true)),(some (.cells (aI []) false true)),(some (.cells (sF vD.2) false true)),(some (.cells (aX bY) false true)),(some (.cells (aD []) false true)),(some (.cells (aI []) false true))])
def Yq (vD:Int×List Int) (aQ:bA) (hosts:Int) (x1:Int) (x2:Int) (x3:Int) (x4:Int) (x5:Int) (x6:Int) (x7:Int) (x8:Int) (bX:(Int×Int×Int×List UInt8×List UInt8×List UInt8)) (x9:Int) (x10:List UInt8) (bY:List aA):Unit⊕Unit→Ex×Fast×WH:=fun
 | .inl e=>(.normal,[(1,(.int .i64 hosts)),(2,(.ptr (some (0,0)))),(4,(.ptr (some (1,0)))),(5,(.ptr (some (2,0)))),(6,(.int .i64 vD.1))],[(some (.cells (dJ aQ) false false)),(some (.cells [(.int .i64 0),(.int .i64 0),(.int .i64 0),(.int .i64 0),(.int .i64 0),(.int .i64 0),(.int .i64 0),(.int .i64 0),(.bool false),(.int .i64 0),(.int .i64 0),(.int .i64 0),(.str ([]:List UInt8)),(.str ([]:List UInt8)),(.str ([]:List UInt8)),(.int .i64 0),(.str ([]:List UInt8)),(.acc 3 0 1 0 true),(.acc 4 0 5 0 true),(.int .i64 0),(.int .i64 0),(.acc 5 0 2 0 true),(.acc 6 0 4 0 true)] false false)),(some (.cells [(.int .i64 (IntKind.i64.wrap (1+x1))),(.int .i64 x2),(.int .i64 x3),(.int .i64 x4),(.int .i64 x5),(.int .i64 x6),(.int .i64 x7),(.int .i64 x8),(.bool aQ.dL),(.int .i64 bX.1),(.int .i64 bX.2.1),(.int .i64 bX.2.2.1),(.str bX.2.2.2.1),(.str bX.2.2.2.2.1),(.str bX.2.2.2.2.2),(.int .i64 x9),(.str x10),(.acc 7 0 1 vD.2.length true),(.acc 8 0 5 bY.length true),(.int .i64 0),(.int .i64 0),(.acc 9 0 2 0 true),(.acc 10 0 4 0 true)] false false)),(some (.cells (sF []) false true)),(some (.cells (aX []) false true)),(some (.cells (aD []) false true)),(some (.cells (aI []) false true)),(some (.cells (sF vD.2) false true)),(some (.cells (aX bY) false true)),(some (.cells (aD []) false true)),(some (.cells (aI []) false true))])
 | .inr e=>((.exit 0),[(2,(.ptr (some (0,0)))),(4,(.ptr (some (1,0)))),(5,(.ptr (some (2,0))))],[(some (.cells (dJ aQ) false false)),(some (.cells [(.int .i64 0),(.int .i64 0),(.int .i64 0),(.int .i64 0),(.int .i64 0),(.int .i64 0),(.int .i64 0),(.int .i64 0),(.bool false),(.int .i64 0),(.int .i64 0),(.int .i64 0),(.str ([]:List UInt8)),(.str ([]:List UInt8)),(.str ([]:List UInt8)),(.int .i64 0),(.str ([]:List UInt8)),(.acc 3 0 1 0 true),(.acc 4 0 5 0 true),(.int .i64 0),(.int .i64 0),(.acc 5 0 2 0 true),(.acc 6 0 4 0 true)] false false)),(some (.cells [(.int .i64 (IntKind.i64.wrap (1+x1))),(.int .i64 x2),(.int .i64 x3),(.int .i64 x4),(.int .i64 x5),(.int .i64 x6),(.int .i64 x7),(.int .i64 x8),(.bool aQ.dL),(.int .i64 bX.1),(.int .i64 bX.2.1),(.int .i64 bX.2.2.1),(.str bX.2.2.2.1),(.str bX.2.2.2.2.1),(.str bX.2.2.2.2.2),(.int .i64 x9),(.str x10),(.acc 7 0 1 vD.2.length true),(.acc 8 0 5 bY.length true),(.int .i64 0),(.int .i64 0),(.acc 9 0 2 0 true),(.acc 10 0 4 0 true)] false false)),(some (.cells (sF []) false true)),(some (.cells (aX []) false true)),(some (.cells (aD []) false true)),(some (.cells (aI []) false true)),(some (.cells (sF vD.2) false true)),(some (.cells (aX bY) false true)),(some (.cells (aD []) false true)),(some (.cells (aI []) false true))])
def OL (vD:Int×List Int) (aQ:bA) (hosts:Int) (x1:Int) (x2:Int) (x3:Int) (x4:Int) (x5:Int) (x6:Int) (x7:Int) (x8:Int) (bX:(Int×Int×Int×List UInt8×List UInt8×List UInt8)) (x9:Int) (x10:List UInt8) (bY:List aA):Option (Unit⊕Unit) :=
 cond (decide (vD.1 < (aQ.Path.length:Int))) (cond (decide (vD.1 < 5)) (some (.inl ())) (some (.inr ()))) (some (.inr ()))
theorem Rl (d:Nat) {vD:Int×List Int} {aQ:bA} {hosts:Int} {x1:Int} {x2:Int} {x3:Int} {x4:Int} {x5:Int} {x6:Int} {x7:Int} {x8:Int} {bX:(Int×Int×Int×List UInt8×List UInt8×List UInt8)} {x9:Int} {x10:List UInt8} {bY:List aA} {r:Unit⊕Unit} (h:OL vD aQ hosts x1 x2 x3 x4 x5 x6 x7 x8 bX x9 x10 bY=some r):bN (aV (aF aH (d+0)) KK 154 Jk) 0 (aaE vD aQ hosts x1 x2 x3 x4 x5 x6 x7 x8 bX x9 x10 bY) (Yq vD aQ hosts x1 x2 x3 x4 x5 x6 x7 x8 bX x9 x10 bY r):=by
 unfold OL at h
 exact bC nB Ka h (.br 68 (λ_=>.br 71 (λ_=>E0 [1,2,4,5,6]) λ_=>E0 [2,4,5]) λ_=>E0 [2,4,5])
def Ba (aQ:bA) (hosts:Int) (x1:Int) (x2:Int) (x3:Int) (x4:Int) (x5:Int) (x6:Int) (x7:Int) (x8:Int) (bX:(Int×Int×Int×List UInt8×List UInt8×List UInt8)) (x9:Int) (x10:List UInt8) (bY:List aA) (vD:Int×List Int):List AV×WH:=([(.int .i64 hosts),(.ptr (some (0,0))),(.ptr (some (1,0))),(.ptr (some (2,0))),(.int .i64 vD.1)],[(some (.cells (dJ aQ) false false)),(some (.cells [(.int .i64 0),(.int .i64 0),(.int .i64 0),(.int .i64 0),(.int .i64 0),(.int .i64 0),(.int .i64 0),(.int .i64 0),(.bool false),(.int .i64 0),(.int .i64 0),(.int .i64 0),(.str ([]:List UInt8)),(.str ([]:List UInt8)),(.str ([]:List UInt8)),(.int .i64 0),(.str ([]:List UInt8)),(.acc 3 0 1 0 true),(.acc 4 0 5 0 true),(.int .i64 0),(.int .i64 0),(.acc 5 0 2 0 true),(.acc 6 0 4 0 true)] false false)),(some (.cells [(.int .i64 (IntKind.i64.wrap (1+x1))),(.int .i64 x2),(.int .i64 x3),(.int .i64 x4),(.int .i64 x5),(.int .i64 x6),(.int .i64 x7),(.int .i64 x8),(.bool aQ.dL),(.int .i64 bX.1),(.int .i64 bX.2.1),(.int .i64 bX.2.2.1),(.str bX.2.2.2.1),(.str bX.2.2.2.2.1),(.str bX.2.2.2.2.2),(.int .i64 x9),(.str x10),(.acc 7 0 1 vD.2.length true),(.acc 8 0 5 bY.length true),(.int .i64 0),(.int .i64 0),(.acc 9 0 2 0 true),(.acc 10 0 4 0 true)] false false)),(some (.cells (sF []) false true)),(some (.cells (aX []) false true)),(some (.cells (aD []) false true)),(some (.cells (aI []) false true)),(some (.cells (sF vD.2) false true)),(some (.cells (aX bY) false true)),(some (.cells (aD []) false true)),(some (.cells (aI []) false true))])
def Ew (aQ:bA) (hosts:Int) (x1:Int) (x2:Int) (x3:Int) (x4:Int) (x5:Int) (x6:Int) (x7:Int) (x8:Int) (bX:(Int×Int×Int×List UInt8×List UInt8×List UInt8)) (x9:Int) (x10:List UInt8) (bY:List aA):(List Int)→Ex×Fast×WH:=λe=>((.exit 0),[(2,(.ptr (some (0,0)))),(4,(.ptr (some (1,0)))),(5,(.ptr (some (2,0))))],[(some (.cells (dJ aQ) false false)),(some (.cells [(.int .i64 0),(.int .i64 0),(.int .i64 0),(.int .i64 0),(.int .i64 0),(.int .i64 0),(.int .i64 0),(.int .i64 0),(.bool false),(.int .i64 0),(.int .i64 0),(.int .i64 0),(.str ([]:List UInt8)),(.str ([]:List UInt8)),(.str ([]:List UInt8)),(.int .i64 0),(.str ([]:List UInt8)),(.acc 3 0 1 0 true),(.acc 4 0 5 0 true),(.int .i64 0),(.int .i64 0),(.acc 5 0 2 0 true),(.acc 6 0 4 0 true)] false false)),(some (.cells [(.int .i64 (IntKind.i64.wrap (1+x1))),(.int .i64 x2),(.int .i64 x3),(.int .i64 x4),(.int .i64 x5),(.int .i64 x6),(.int .i64 x7),(.int .i64 x8),(.bool aQ.dL),(.int .i64 bX.1),(.int .i64 bX.2.1),(.int .i64 bX.2.2.1),(.str bX.2.2.2.1),(.str bX.2.2.2.2.1),(.str bX.2.2.2.2.2),(.int .i64 x9),(.str x10),(.acc 7 0 1 e.length true),(.acc 8 0 5 bY.length true),(.int .i64 0),(.int .i64 0),(.acc 9 0 2 0 true),(.acc 10 0 4 0 true)] false false)),(some (.cells (sF []) false true)),(some (.cells (aX []) false true)),(some (.cells (aD []) false true)),(some (.cells (aI []) false true)),(some (.cells (sF e) false true)),(some (.cells (aX bY) false true)),(some (.cells (aD []) false true)),(some (.cells (aI []) false true))])
abbrev aaF (aQ:bA) (hosts:Int) (x1:Int) (x2:Int) (x3:Int) (x4:Int) (x5:Int) (x6:Int) (x7:Int) (x8:Int) (bX:(Int×Int×Int×List UInt8×List UInt8×List UInt8)) (x9:Int) (x10:List UInt8) (bY:List aA):=dF [1,2,4,5,6] (Ba aQ hosts x1 x2 x3 x4 x5 x6 x7 x8 bX x9 x10 bY) (Ew aQ hosts x1 x2 x3 x4 x5 x6 x7 x8 bX x9 x10 bY)
def Di (aQ:bA) (hosts:Int) (x1:Int) (x2:Int) (x3:Int) (x4:Int) (x5:Int) (x6:Int) (x7:Int) (x8:Int) (bX:(Int×Int×Int×List UInt8×List UInt8×List UInt8)) (x9:Int) (x10:List UInt8) (bY:List aA) (vD:Int×List Int):Option ((Int×List Int)⊕((List Int))) :=
 (OL vD aQ hosts x1 x2 x3 x4 x5 x6 x7 x8 bX x9 x10 bY).bind λ(x27:Unit⊕Unit)=>cond (jO x27) ((bV aQ.Path vD.1).bind λ(x29:Int)=>(bG x29 hosts).bind λ(x30:Int)=>gd (dx 8 (vD.2++[x30]).length) (some (.inl ((IntKind.i64.wrap (vD.1+1)),(vD.2++[x30]))))) (some (.inr vD.2))
def XI (aQ:bA) (hosts:Int) (x1:Int) (x2:Int) (x3:Int) (x4:Int) (x5:Int) (x6:Int) (x7:Int) (x8:Int) (bX:(Int×Int×Int×List UInt8×List UInt8×List UInt8)) (x9:Int) (x10:List UInt8) (bY:List aA) (vD:Int×List Int):Option ((List Int)):=bQ (Di aQ hosts x1 x2 x3 x4 x5 x6 x7 x8 bX x9 x10 bY) KK vD
theorem ab7 (d:Nat) {aQ:bA} {hosts:Int} {x1:Int} {x2:Int} {x3:Int} {x4:Int} {x5:Int} {x6:Int} {x7:Int} {x8:Int} {bX:(Int×Int×Int×List UInt8×List UInt8×List UInt8)} {x9:Int} {x10:List UInt8} {bY:List aA} {vD:Int×List Int} {r:(Int×List Int)⊕((List Int))} (h:Di aQ hosts x1 x2 x3 x4 x5 x6 x7 x8 bX x9 x10 bY vD=some r):bN (aV (aF aH (d+1)) KK 154 agv) 0 (jJ [1,2,4,5,6] (Ba aQ hosts x1 x2 x3 x4 x5 x6 x7 x8 bX x9 x10 bY vD)) (aaF aQ hosts x1 x2 x3 x4 x5 x6 x7 x8 bX x9 x10 bY r):=by
 unfold Di at h
 exact bC nB agw h (.bd λx27 q27=>.ite (λajG=>Jn [1,2,4,5,6] [none,none,none,none,none] [] [] (j6 (il ajG) (Rl (d+1) q27)) <| .bd λx29 q29=>Ix IB 79 q29 <| .bd λx30 q30=>iN (bJ (d+0) q30) <| .gd λq31=>Ap IB 84 q31 <| .st none <| E0 [1,2,4,5,6]) λajG=>Jn [1,2,4,5,6] [none,none,none,none,none] [] [] (j6 (Ai ajG) (Rl (d+1) q27)) <| E0 [2,4,5])
theorem ab8 (d:Nat) {aQ:bA} {hosts:Int} {x1:Int} {x2:Int} {x3:Int} {x4:Int} {x5:Int} {x6:Int} {x7:Int} {x8:Int} {bX:(Int×Int×Int×List UInt8×List UInt8×List UInt8)} {x9:Int} {x10:List UInt8} {bY:List aA} {vD:Int×List Int} {r:(List Int)} (h:XI aQ hosts x1 x2 x3 x4 x5 x6 x7 x8 bX x9 x10 bY vD=some r):bN (eY (aV (aF aH (d+1)) KK 154 agv) [1,2,4,5,6] KK) 0 (jJ [1,2,4,5,6] (Ba aQ hosts x1 x2 x3 x4 x5 x6 x7 x8 bX x9 x10 bY vD)) (Ew aQ hosts x1 x2 x3 x4 x5 x6 x7 x8 bX x9 x10 bY r) :=
 cO (st:=Ba aQ hosts x1 x2 x3 x4 x5 x6 x7 x8 bX x9 x10 bY) (fin:=Ew aQ hosts x1 x2 x3 x4 x5 x6 x7 x8 bX x9 x10 bY) (step:=Di aQ hosts x1 x2 x3 x4 x5 x6 x7 x8 bX x9 x10 bY) (λe=>by (intro h;cases h)) (λs x h=>ab7 d h) KK vD r h
abbrev aaG (x1:Int) (aQ:bA) (x2:Int) (x3:Int) (x4:Int) (x5:Int) (x6:Int) (x7:Int) (x8:Int) (bX:(Int×Int×Int×List UInt8×List UInt8×List UInt8)) (x9:Int) (x10:List UInt8) (x32:(List Int)) (bY:List aA):Fast×WH:=([(2,(.ptr (some (0,0)))),(4,(.ptr (some (1,0)))),(5,(.ptr (some (2,0))))],[(some (.cells (dJ aQ) false false)),(some (.cells [(.int .i64 0),(.int .i64 0),(.int .i64 0),(.int .i64 0),(.int .i64 0),(.int .i64 0),(.int .i64 0),(.int .i64 0),(.bool false),(.int .i64 0),(.int .i64 0),(.int .i64 0),(.str ([]:List UInt8)),(.str ([]:List UInt8)),(.str ([]:List UInt8)),(.int .i64 0),(.str ([]:List UInt8)),(.acc 3 0 1 0 true),(.acc 4 0 5 0 true),(.int .i64 0),(.int .i64 0),(.acc 5 0 2 0 true),(.acc 6 0 4 0 true)] false false)),(some (.cells [(.int .i64 (IntKind.i64.wrap (1+x1))),(.int .i64 x2),(.int .i64 x3),(.int .i64 x4),(.int .i64 x5),(.int .i64 x6),(.int .i64 x7),(.int .i64 x8),(.bool aQ.dL),(.int .i64 bX.1),(.int .i64 bX.2.1),(.int .i64 bX.2.2.1),(.str bX.2.2.2.1),(.str bX.2.2.2.2.1),(.str bX.2.2.2.2.2),(.int .i64 x9),(.str x10),(.acc 7 0 1 x32.length true),(.acc 8 0 5 bY.length true),(.int .i64 0),(.int .i64 0),(.acc 9 0 2 0 true),(.acc 10 0 4 0 true)] false false)),(some (.cells (sF []) false true)),(some (.cells (aX []) false true)),(some (.cells (aD []) false true)),(some (.cells (aI []) false true)),(some (.cells (sF x32) false true)),(some (.cells (aX bY) false true)),(some (.cells (aD []) false true)),(some (.cells (aI []) false true))])
def Yr (x1:Int) (aQ:bA) (x2:Int) (x3:Int) (x4:Int) (x5:Int) (x6:Int) (x7:Int) (x8:Int) (bX:(Int×Int×Int×List UInt8×List UInt8×List UInt8)) (x9:Int) (x10:List UInt8) (x32:(List Int)) (bY:List aA):Bool→Ex×Fast×WH:=λe=>(.normal,[(2,(.ptr (some (0,0)))),(4,(.ptr (some (1,0)))),(5,(.ptr (some (2,0)))),(94,(.bool e))],[(some (.cells (dJ aQ) false false)),(some (.cells [(.int .i64 0),(.int .i64 0),(.int .i64 0),(.int .i64 0),(.int .i64 0),(.int .i64 0),(.int .i64 0),(.int .i64 0),(.bool false),(.int .i64 0),(.int .i64 0),(.int .i64 0),(.str ([]:List UInt8)),(.str ([]:List UInt8)),(.str ([]:List UInt8)),(.int .i64 0),(.str ([]:List UInt8)),(.acc 3 0 1 0 true),(.acc 4 0 5 0 true),(.int .i64 0),(.int .i64 0),(.acc 5 0 2 0 true),(.acc 6 0 4 0 true)] false false)),(some (.cells [(.int .i64 (IntKind.i64.wrap (1+x1))),(.int .i64 x2),(.int .i64 x3),(.int .i64 x4),(.int .i64 x5),(.int .i64 x6),(.int .i64 x7),(.int .i64 x8),(.bool aQ.dL),(.int .i64 bX.1),(.int .i64 bX.2.1),(.int .i64 bX.2.2.1),(.str bX.2.2.2.1),(.str bX.2.2.2.2.1),(.str bX.2.2.2.2.2),(.int .i64 x9),(.str x10),(.acc 7 0 1 x32.length true),(.acc 8 0 5 bY.length true),(.int .i64 0),(.int .i64 0),(.acc 9 0 2 0 true),(.acc 10 0 4 0 true)] false false)),(some (.cells (sF []) false true)),(some (.cells (aX []) false true)),(some (.cells (aD []) false true)),(some (.cells (aI []) false true)),(some (.cells (sF x32) false true)),(some (.cells (aX bY) false true)),(some (.cells (aD []) false true)),(some (.cells (aI []) false true))])
def OM (x1:Int) (aQ:bA) (x2:Int) (x3:Int) (x4:Int) (x5:Int) (x6:Int) (x7:Int) (x8:Int) (bX:(Int×Int×Int×List UInt8×List UInt8×List UInt8)) (x9:Int) (x10:List UInt8) (x32:(List Int)) (bY:List aA):Option (Bool) :=
 cond ((IntKind.i64.wrap (1+x1))==6) (some true) ((bG aQ.ug 4).bind λ(x33:Int)=>some (x33==1))
theorem ab9 (d:Nat) {x1:Int} {aQ:bA} {x2:Int} {x3:Int} {x4:Int} {x5:Int} {x6:Int} {x7:Int} {x8:Int} {bX:(Int×Int×Int×List UInt8×List UInt8×List UInt8)} {x9:Int} {x10:List UInt8} {x32:(List Int)} {bY:List aA} {r:Bool} (h:OM x1 aQ x2 x3 x4 x5 x6 x7 x8 bX x9 x10 x32 bY=some r):bN (aV (aF aH (d+1)) KK 154 Od) 0 (aaG x1 aQ x2 x3 x4 x5 x6 x7 x8 bX x9 x10 x32 bY) (Yr x1 aQ x2 x3 x4 x5 x6 x7 x8 bX x9 x10 x32 bY r):=by
 unfold OM at h
 exact bC nB Oe h (.br 89 (λ_=>E0 [2,4,5,94]) λ_=>.bd λx33 q33=>iN (bJ (d+0) q33) <| E0 [2,4,5,94])
abbrev aaH (x1:Int) (aQ:bA) (x2:Int) (x3:Int) (x4:Int) (x5:Int) (x6:Int) (x7:Int) (x8:Int) (bX:(Int×Int×Int×List UInt8×List UInt8×List UInt8)) (x9:Int) (x10:List UInt8) (x32:(List Int)) (bY:List aA):Fast×WH:=([(2,(.ptr (some (0,0)))),(4,(.ptr (some (1,0)))),(5,(.ptr (some (2,0))))],[(some (.cells (dJ aQ) false false)),(some (.cells [(.int .i64 0),(.int .i64 0),(.int .i64 0),(.int .i64 0),(.int .i64 0),(.int .i64 0),(.int .i64 0),(.int .i64 0),(.bool false),(.int .i64 0),(.int .i64 0),(.int .i64 0),(.str ([]:List UInt8)),(.str ([]:List UInt8)),(.str ([]:List UInt8)),(.int .i64 0),(.str ([]:List UInt8)),(.acc 3 0 1 0 true),(.acc 4 0 5 0 true),(.int .i64 0),(.int .i64 0),(.acc 5 0 2 0 true),(.acc 6 0 4 0 true)] false false)),(some (.cells [(.int .i64 (IntKind.i64.wrap (1+x1))),(.int .i64 x2),(.int .i64 x3),(.int .i64 x4),(.int .i64 x5),(.int .i64 x6),(.int .i64 x7),(.int .i64 x8),(.bool aQ.dL),(.int .i64 bX.1),(.int .i64 bX.2.1),(.int .i64 bX.2.2.1),(.str bX.2.2.2.1),(.str bX.2.2.2.2.1),(.str bX.2.2.2.2.2),(.int .i64 x9),(.str x10),(.acc 7 0 1 x32.length true),(.acc 8 0 5 bY.length true),(.int .i64 0),(.int .i64 0),(.acc 9 0 2 0 true),(.acc 10 0 4 0 true)] false false)),(some (.cells (sF []) false true)),(some (.cells (aX []) false true)),(some (.cells (aD []) false true)),(some (.cells (aI []) false true)),(some (.cells (sF x32) false true)),(some (.cells (aX bY) false true)),(some (.cells (aD []) false true)),(some (.cells (aI []) false true))])
def Yt (x1:Int) (aQ:bA) (x2:Int) (x3:Int) (x4:Int) (x5:Int) (x6:Int) (x7:Int) (x8:Int) (bX:(Int×Int×Int×List UInt8×List UInt8×List UInt8)) (x9:Int) (x10:List UInt8) (x32:(List Int)) (bY:List aA):(Int×Int×List av×List au)→Ex×Fast×WH:=λe=>(.normal,[(2,(.ptr (some (0,0)))),(4,(.ptr (some (1,0)))),(5,(.ptr (some (2,0))))],[(some (.cells (dJ aQ) false false)),(some (.cells [(.int .i64 0),(.int .i64 0),(.int .i64 0),(.int .i64 0),(.int .i64 0),(.int .i64 0),(.int .i64 0),(.int .i64 0),(.bool false),(.int .i64 0),(.int .i64 0),(.int .i64 0),(.str ([]:List UInt8)),(.str ([]:List UInt8)),(.str ([]:List UInt8)),(.int .i64 0),(.str ([]:List UInt8)),(.acc 3 0 1 0 true),(.acc 4 0 5 0 true),(.int .i64 0),(.int .i64 0),(.acc 5 0 2 0 true),(.acc 6 0 4 0 true)] false false)),(some (.cells [(.int .i64 (IntKind.i64.wrap (1+x1))),(.int .i64 x2),(.int .i64 x3),(.int .i64 x4),(.int .i64 x5),(.int .i64 x6),(.int .i64 x7),(.int .i64 x8),(.bool aQ.dL),(.int .i64 bX.1),(.int .i64 bX.2.1),(.int .i64 bX.2.2.1),(.str bX.2.2.2.1),(.str bX.2.2.2.2.1),(.str bX.2.2.2.2.2),(.int .i64 x9),(.str x10),(.acc 7 0 1 x32.length true),(.acc 8 0 5 bY.length true),(.int .i64 e.1),(.int .i64 e.2.1),(.acc 9 0 2 e.2.2.1.length true),(.acc 10 0 4 e.2.2.2.length true)] false false)),(some (.cells (sF []) false true)),(some (.cells (aX []) false true)),(some (.cells (aD []) false true)),(some (.cells (aI []) false true)),(some (.cells (sF x32) false true)),(some (.cells (aX bY) false true)),(some (.cells (aD e.2.2.1) false true)),(some (.cells (aI e.2.2.2) false true))])
def OO (x1:Int) (aQ:bA) (x2:Int) (x3:Int) (x4:Int) (x5:Int) (x6:Int) (x7:Int) (x8:Int) (bX:(Int×Int×Int×List UInt8×List UInt8×List UInt8)) (x9:Int) (x10:List UInt8) (x32:(List Int)) (bY:List aA):Option ((Int×Int×List av×List au)) :=
 (OM x1 aQ x2 x3 x4 x5 x6 x7 x8 bX x9 x10 x32 bY).bind λ(x34:Bool)=>cond x34 ((tq aQ.dR aQ.Epoch aQ.Ops 0).bind λ(x35:Int×Int×List av×List au)=>some (x35.1,x35.2.1,x35.2.2.1,x35.2.2.2)) (some (0,0,[],[]))
theorem acd (d:Nat) {x1:Int} {aQ:bA} {x2:Int} {x3:Int} {x4:Int} {x5:Int} {x6:Int} {x7:Int} {x8:Int} {bX:(Int×Int×Int×List UInt8×List UInt8×List UInt8)} {x9:Int} {x10:List UInt8} {x32:(List Int)} {bY:List aA} {r:(Int×Int×List av×List au)} (h:OO x1 aQ x2 x3 x4 x5 x6 x7 x8 bX x9 x10 x32 bY=some r):bN (aV (aF aH (d+5)) KK 154 RY) 0 (aaH x1 aQ x2 x3 x4 x5 x6 x7 x8 bX x9 x10 x32 bY) (Yt x1 aQ x2 x3 x4 x5 x6 x7 x8 bX x9 x10 x32 bY r):=by
 unfold OO at h
 exact bC nB Q_ h (.bd λx34 q34=>Jn [2,4,5] [none,none,none] [] [] (ab9 (d+4) q34) <| .br 94 (λ_=>.bd λx35 q35=>Cl [Fo,Fo,Fo,Fo] none [.undef,.undef,.slice none 8 0 0 true] (LQ (d+0) q35) <| .st none <| E0 [2,4,5]) λ_=>E0 [2,4,5])
def DY (aQ:bA) (hosts:Int):Option (Int×Int×Int×Int×Int×Int×Int×Int×Bool×Int×Int×Int×List UInt8×List UInt8×List UInt8×Int×List UInt8×Int×Int×List Int×List aA×List av×List au) :=
 (bG aQ.Kind 10).bind λ(x1:Int)=>(bG aQ.From hosts).bind λ(x2:Int)=>(bG aQ.To hosts).bind λ(x3:Int)=>(bG aQ.dR 6).bind λ(x4:Int)=>(bG aQ.Epoch 6).bind λ(x5:Int)=>(bG aQ.Weight 9).bind λ(x6:Int)=>(bG aQ.Load 20).bind λ(x7:Int)=>(bG aQ.kT 4).bind λ(x8:Int)=>(bG aQ.Why 12).bind λ(x9:Int)=>(yH aQ.Why).bind λ(x10:List UInt8)=>(R_ aQ.Table 5).bind λ(bY:List aA)=>(Jo aQ.Op).bind λ(dD:aU)=>(OJ dD aQ hosts x1 x2 x3 x4 x5 x6 x7 x8 x9 x10 bY).bind λ(bX:(Int×Int×Int×List UInt8×List UInt8×List UInt8))=>(XI aQ hosts x1 x2 x3 x4 x5 x6 x7 x8 bX x9 x10 bY (0,[])).bind λ(x32:(List Int))=>(OO x1 aQ x2 x3 x4 x5 x6 x7 x8 bX x9 x10 x32 bY).bind λ(Aj:(Int×Int×List av×List au))=>(bG aQ.ug 22).bind λ(Ur:Int)=>cond (Ur==16) ((AL aQ.kT).bind λ(x38:Int)=>some ((IntKind.i64.wrap (1+x1)),x2,x3,x4,x5,x6,x7,x38,aQ.dL,bX.1,bX.2.1,bX.2.2.1,bX.2.2.2.1,bX.2.2.2.2.1,bX.2.2.2.2.2,x9,x10,Aj.1,Aj.2.1,x32,bY,Aj.2.2.1,Aj.2.2.2)) (cond (Ur==17) ((AL aQ.From).bind λ(x39:Int)=>some ((IntKind.i64.wrap (1+x1)),x39,x3,x4,x5,x6,x7,x8,aQ.dL,bX.1,bX.2.1,bX.2.2.1,bX.2.2.2.1,bX.2.2.2.2.1,bX.2.2.2.2.2,x9,x10,Aj.1,Aj.2.1,x32,bY,Aj.2.2.1,Aj.2.2.2)) (cond (Ur==18) ((bG aQ.Kind 14).bind λ(x40:Int)=>some ((IntKind.i64.wrap (x40 - 1)),x2,x3,x4,x5,x6,x7,x8,aQ.dL,bX.1,bX.2.1,bX.2.2.1,bX.2.2.2.1,bX.2.2.2.2.1,bX.2.2.2.2.2,x9,x10,Aj.1,Aj.2.1,x32,bY,Aj.2.2.1,Aj.2.2.2)) (cond (Ur==19) ((tq aQ.dR aQ.Epoch aQ.Ops (IntKind.i64.wrap (Int.tdiv aQ.ug 22))).bind λ(x41:Int×Int×List av×List au)=>some ((IntKind.i64.wrap (1+x1)),x2,x3,x4,x5,x6,x7,x8,aQ.dL,bX.1,bX.2.1,bX.2.2.1,bX.2.2.2.1,bX.2.2.2.2.1,bX.2.2.2.2.2,x9,x10,x41.1,x41.2.1,x32,bY,x41.2.2.1,x41.2.2.2)) (cond (Ur==20) ((bG aQ.Why 15).bind λ(x42:Int)=>some ((IntKind.i64.wrap (1+x1)),x2,x3,x4,x5,x6,x7,x8,aQ.dL,bX.1,bX.2.1,bX.2.2.1,bX.2.2.2.1,bX.2.2.2.2.1,bX.2.2.2.2.2,(IntKind.i64.wrap (x42 - 2)),x10,Aj.1,Aj.2.1,x32,bY,Aj.2.2.1,Aj.2.2.2)) (cond (Ur==21) (gd (dx 8 (x32++[1,2,3,4,5,6]).length) (some ((IntKind.i64.wrap (1+x1)),x2,x3,x4,x5,x6,x7,x8,aQ.dL,bX.1,bX.2.1,bX.2.2.1,bX.2.2.2.1,bX.2.2.2.2.1,bX.2.2.2.2.2,x9,x10,Aj.1,Aj.2.1,(x32++[1,2,3,4,5,6]),bY,Aj.2.2.1,Aj.2.2.2))) (some ((IntKind.i64.wrap (1+x1)),x2,x3,x4,x5,x6,x7,x8,aQ.dL,bX.1,bX.2.1,bX.2.2.1,bX.2.2.2.1,bX.2.2.2.2.1,bX.2.2.2.2.2,x9,x10,Aj.1,Aj.2.1,x32,bY,Aj.2.2.1,Aj.2.2.2)))))))
def Ut (aQ:bA) (hosts:Int) (r:Int×Int×Int×Int×Int×Int×Int×Int×Bool×Int×Int×Int×List UInt8×List UInt8×List UInt8×Int×List UInt8×Int×Int×List Int×List aA×List av×List au):AV×WH:=((.agg [(.int .i64 r.1),(.int .i64 r.2.1),(.int .i64 r.2.2.1),(.int .i64 r.2.2.2.1),(.int .i64 r.2.2.2.2.1),(.int .i64 r.2.2.2.2.2.1),(.int .i64 r.2.2.2.2.2.2.1),(.int .i64 r.2.2.2.2.2.2.2.1),(.bool r.2.2.2.2.2.2.2.2.1),(.int .i64 r.2.2.2.2.2.2.2.2.2.1),(.int .i64 r.2.2.2.2.2.2.2.2.2.2.1),(.int .i64 r.2.2.2.2.2.2.2.2.2.2.2.1),(.str r.2.2.2.2.2.2.2.2.2.2.2.2.1),(.str r.2.2.2.2.2.2.2.2.2.2.2.2.2.1),(.str r.2.2.2.2.2.2.2.2.2.2.2.2.2.2.1),(.int .i64 r.2.2.2.2.2.2.2.2.2.2.2.2.2.2.2.1),(.str r.2.2.2.2.2.2.2.2.2.2.2.2.2.2.2.2.1),(.acc 0 0 1 r.2.2.2.2.2.2.2.2.2.2.2.2.2.2.2.2.2.2.2.1.length true),(.acc 1 0 5 r.2.2.2.2.2.2.2.2.2.2.2.2.2.2.2.2.2.2.2.2.1.length true),(.int .i64 r.2.2.2.2.2.2.2.2.2.2.2.2.2.2.2.2.2.1),(.int .i64 r.2.2.2.2.2.2.2.2.2.2.2.2.2.2.2.2.2.2.1),(.acc 2 0 2 r.2.2.2.2.2.2.2.2.2.2.2.2.2.2.2.2.2.2.2.2.2.1.length true),(.acc 3 0 4 r.2.2.2.2.2.2.2.2.2.2.2.2.2.2.2.2.2.2.2.2.2.2.length true)]),[(some (.cells (sF r.2.2.2.2.2.2.2.2.2.2.2.2.2.2.2.2.2.2.2.1) false true)),(some (.cells (aX r.2.2.2.2.2.2.2.2.2.2.2.2.2.2.2.2.2.2.2.2.1) false true)),(some (.cells (aD r.2.2.2.2.2.2.2.2.2.2.2.2.2.2.2.2.2.2.2.2.2.1) false true)),(some (.cells (aI r.2.2.2.2.2.2.2.2.2.2.2.2.2.2.2.2.2.2.2.2.2.2) false true))])
theorem aaI (d:Nat) {aQ:bA} {hosts:Int} {r:Int×Int×Int×Int×Int×Int×Int×Int×Bool×Int×Int×Int×List UInt8×List UInt8×List UInt8×Int×List UInt8×Int×Int×List Int×List aA×List av×List au} (h:DY aQ hosts=some r):Spec (aF aH (d+6)) 8 [(.agg (dJ aQ)),(.int .i64 hosts)] [] (Ut aQ hosts r).1 (Ut aQ hosts r).2:=by
 unfold DY at h
 exact aZ nB AF8 h (.z 4 [.undef,.undef,.undef,.undef,.undef,.undef,.undef,.undef,.undef,.undef,.undef,.undef,.undef,.undef,.undef,.undef,.undef,.slice none 1 0 0 true,.slice none 5 0 0 true,.undef,.undef,.slice none 2 0 0 true,.slice none 4 0 0 true] <| .bd λx1 q1=>iN (bJ (d+4) q1) <| .bd λx2 q2=>iN (bJ (d+4) q2) <| .bd λx3 q3=>iN (bJ (d+4) q3) <| .bd λx4 q4=>iN (bJ (d+4) q4) <| .bd λx5 q5=>iN (bJ (d+4) q5) <| .bd λx6 q6=>iN (bJ (d+4) q6) <| .bd λx7 q7=>iN (bJ (d+4) q7) <| .bd λx8 q8=>iN (bJ (d+4) q8) <| .bd λx9 q9=>iN (bJ (d+4) q9) <| .bd λx10 J_=>iN (LJ (d+3) J_) <| .er <| .ob (rfl:@Eq (Option AV) (some (bn aQ.Table)) (some (bn aQ.Table))) <| .ob (rfl:@Eq (Option AV) (some (bn aQ.Table)) (some (bn aQ.Table))) <| .ob (rfl:@Eq (Option AV) (some (bn aQ.Table)) (some (bn aQ.Table))) <| .ob (rfl:@Eq (Option AV) (some (bn aQ.Table)) (some (bn aQ.Table))) <| .ob (rfl:@Eq (Option AV) (some (bn aQ.Table)) (some (bn aQ.Table))) <| .ob (rfl:@Eq (Option AV) (some (bn aQ.Table)) (some (bn aQ.Table))) <| .ob (rfl:@Eq (Option AV) (some (bn aQ.Table)) (some (bn aQ.Table))) <| .ob (rfl:@Eq (Option AV) (some (bn aQ.Table)) (some (bn aQ.Table))) <| .ob (rfl:@Eq (Option AV) (some (bn aQ.Table)) (some (bn aQ.Table))) <| .ob (rfl:@Eq (Option AV) (some (bn aQ.Table)) (some (bn aQ.Table))) <| .bd λbY Hz=>Cl [Fo,Fo] none [.slice none 5 0 0 true] (afa (d+0) Hz) <| .z 46 [.agg [.undef,.undef,.undef,.undef,.undef,.undef,.undef,.undef,.undef,.undef,.undef,.undef,.undef,.undef,.undef,.undef,.undef,.slice none 1 0 0 true,.slice none 5 0 0 true,.undef,.undef,.slice none 2 0 0 true,.slice none 4 0 0 true]] <| .z 5 [.undef,.undef,.undef,.undef,.undef,.undef,.undef,.undef,.undef,.undef,.undef,.undef,.undef,.undef,.undef,.undef,.undef,.slice none 1 0 0 true,.slice none 5 0 0 true,.undef,.undef,.slice none 2 0 0 true,.slice none 4 0 0 true] <| .st none <| .bd λdD LK=>iN (Ul (d+1) LK) <| .st none <| .bd λbX ML=>Jn [1,2,4,5] [none,none,none,none] [] [] (ab6 (d+2) ML) <| .bd λx32 q32=>Lp [none,none,none,none,none] [Tw,Tw,Tw,Tw,Tw,Tw,Tw,Tw,Tw,Tw,Tw] [] (ab8 (d+4) q32) <| .bd λAj q36=>Jn [2,4,5] [none,none,none] [] [] (acd (d+0) q36) <| .bd λUr q37=>iN (bJ (d+4) q37) <| .br 106 (λ_=>.bd λx38 q38=>iN (yI (d+3) q38) <| .st none <| .st none <| Fn none [.agg [.undef,.undef,.undef,.undef,.undef,.undef,.undef,.undef,.undef,.undef,.undef,.undef,.undef,.undef,.undef,.undef,.undef,.slice none 1 0 0 true,.slice none 5 0 0 true,.undef,.undef,.slice none 2 0 0 true,.slice none 4 0 0 true]] none) λ_=>.br 112 (λ_=>.bd λx39 q39=>iN (yI (d+3) q39) <| .st none <| .st none <| Fn none [.agg [.undef,.undef,.undef,.undef,.undef,.undef,.undef,.undef,.undef,.undef,.undef,.undef,.undef,.undef,.undef,.undef,.undef,.slice none 1 0 0 true,.slice none 5 0 0 true,.undef,.undef,.slice none 2 0 0 true,.slice none 4 0 0 true]] none) λ_=>.br 118 (λ_=>.bd λx40 q40=>iN (bJ (d+4) q40) <| .st none <| .st none <| Fn none [.agg [.undef,.undef,.undef,.undef,.undef,.undef,.undef,.undef,.undef,.undef,.undef,.undef,.undef,.undef,.undef,.undef,.undef,.slice none 1 0 0 true,.slice none 5 0 0 true,.undef,.undef,.slice none 2 0 0 true,.slice none 4 0 0 true]] none) λ_=>.br 125 (λ_=>.bd λx41 q41=>Cl [Fo,Fo,Fo,Fo] none [.undef,.undef,.slice none 8 0 0 true] (LQ (d+0) q41) <| .st none <| .st none <| Fn none [.agg [.undef,.undef,.undef,.undef,.undef,.undef,.undef,.undef,.undef,.undef,.undef,.undef,.undef,.undef,.undef,.undef,.undef,.slice none 1 0 0 true,.slice none 5 0 0 true,.undef,.undef,.slice none 2 0 0 true,.slice none 4 0 0 true]] none) λ_=>.br 138 (λ_=>.bd λx42 q42=>iN (bJ (d+4) q42) <| .st none <| .st none <| Fn none [.agg [.undef,.undef,.undef,.undef,.undef,.undef,.undef,.undef,.undef,.undef,.undef,.undef,.undef,.undef,.undef,.undef,.undef,.slice none 1 0 0 true,.slice none 5 0 0 true,.undef,.undef,.slice none 2 0 0 true,.slice none 4 0 0 true]] none) λ_=>.br 146 (λ_=>.gd λq43=>Ap IB 151 q43 <| .st none <| .st none <| Fn none [.agg [.undef,.undef,.undef,.undef,.undef,.undef,.undef,.undef,.undef,.undef,.undef,.undef,.undef,.undef,.undef,.undef,.undef,.slice none 1 0 0 true,.slice none 5 0 0 true,.undef,.undef,.slice none 2 0 0 true,.slice none 4 0 0 true]] none) λ_=>.st none <| Fn none [.agg [.undef,.undef,.undef,.undef,.undef,.undef,.undef,.undef,.undef,.undef,.undef,.undef,.undef,.undef,.undef,.undef,.undef,.slice none 1 0 0 true,.slice none 5 0 0 true,.undef,.undef,.slice none 2 0 0 true,.slice none 4 0 0 true]] none)
def tu (a:aB):Option (Bool) :=
 cond (decide (a.Why≥0)) (cond (decide (a.Why≤11)) (some (decide ((a.Value.length:Int)≤16))) (some false)) (some false)
def KD (a:aB) (r:Bool):AV×WH:=((.bool r),[])
theorem Gp (d:Nat) {a:aB} {r:Bool} (h:tu a=some r):Spec (aF aH (d+1)) 52 [(.agg (dZ a))] [] (KD a r).1 (KD a r).2:=by
 unfold tu at h
 exact aZ nB ayR h (.br 6 (λ_=>.br 11 (λ_=>Fn Fo [] none) λ_=>Fn Fo [] none) λ_=>Fn Fo [] none)
def Fg (aQ:aC):Option (Bool) :=
 cond (aQ.dR==0) (cond (aQ.Epoch==0) (cond ((aQ.Pairs.length:Int)==0) (some ((aQ.dN.length:Int)==0)) (some false)) (some false)) (some false)
def KE (aQ:aC) (r:Bool):AV×WH:=((.bool r),[])
theorem aaJ (d:Nat) {aQ:aC} {r:Bool} (h:Fg aQ=some r):Spec (aF aH (d+1)) 91 [(.agg (bK aQ))] [] (KE aQ r).1 (KE aQ r).2:=by
 unfold Fg at h
 exact aZ nB azo h (.br 6 (λ_=>.br 11 (λ_=>.br 17 (λ_=>Fn Fo [] none) λ_=>Fn Fo [] none) λ_=>Fn Fo [] none) λ_=>Fn Fo [] none)
abbrev Sc (a:aC) (bg:aC):Fast×WH:=([(2,(.ptr (some (0,0)))),(3,(.ptr (some (1,0))))],[(some (.cells (bK a) false false)),(some (.cells (bK bg) false false))])
def QA (a:aC) (bg:aC):Unit⊕Unit→Ex×Fast×WH:=fun
 | .inl e=>(.ret,[(4,(.bool false))],[])
 | .inr e=>(.normal,[(2,(.ptr (some (0,0)))),(3,(.ptr (some (1,0))))],[(some (.cells (bK a) false false)),(some (.cells (bK bg) false false))])
def za (a:aC) (bg:aC):Option (Unit⊕Unit) :=
 cond (a.dR != bg.dR) (some (.inl ())) (cond (a.Epoch != bg.Epoch) (some (.inl ())) (cond ((a.Pairs.length:Int) != (bg.Pairs.length:Int)) (some (.inl ())) (cond ((a.dN.length:Int) != (bg.dN.length:Int)) (some (.inl ())) (some (.inr ())))))
theorem IQ (d:Nat) {a:aC} {bg:aC} {r:Unit⊕Unit} (h:za a bg=some r):bN (aV (aF aH (d+0)) KK 73 akG) 0 (Sc a bg) (QA a bg r):=by
 unfold za at h
 exact bC nB ai4 h (.br 12 (λ_=>E0 [4]) λ_=>.br 19 (λ_=>E0 [4]) λ_=>.br 28 (λ_=>E0 [4]) λ_=>.br 36 (λ_=>E0 [4]) λ_=>E0 [2,3])
def tC (a:aC) (bg:aC) (s5:Int):List AV×WH:=([(.ptr (some (0,0))),(.ptr (some (1,0))),(.int .i64 s5)],[(some (.cells (bK a) false false)),(some (.cells (bK bg) false false))])
def yg (a:aC) (bg:aC):Unit⊕Unit→Ex×Fast×WH:=fun
 | .inl e=>(.ret,[(4,(.bool false))],[])
 | .inr e=>((.exit 0),[(2,(.ptr (some (0,0)))),(3,(.ptr (some (1,0))))],[(some (.cells (bK a) false false)),(some (.cells (bK bg) false false))])
abbrev Sd (a:aC) (bg:aC):=dF [2,3,5] (tC a bg) (yg a bg)
def qG (a:aC) (bg:aC) (s5:Int):Option ((Int)⊕(Unit⊕Unit)) :=
 cond (decide (s5 < (a.Pairs.length:Int))) ((bV a.Pairs s5).bind λ(x6:av)=>(bV bg.Pairs s5).bind λ(x7:av)=>cond (!(x6.Key==x7.Key&&(x6.Value==x7.Value&&true))) (some (.inr (.inl ()))) (some (.inl (IntKind.i64.wrap (s5+1))))) (some (.inr (.inr ())))
def Ey (a:aC) (bg:aC) (s5:Int):Option (Unit⊕Unit):=bQ (qG a bg) KK s5
theorem Uu (d:Nat) {a:aC} {bg:aC} {s5:Int} {r:(Int)⊕(Unit⊕Unit)} (h:qG a bg s5=some r):bN (aV (aF aH (d+0)) KK 73 ai5) 0 (jJ [2,3,5] (tC a bg s5)) (Sd a bg r):=by
 unfold qG at h
 exact bC nB alK h (.br 41 (λ_=>.bd λx6 q6=>Ix aO 47 q6 <| .bd λx7 q7=>Ix aO 52 q7 <| .br 54 (λ_=>E0 [4]) λ_=>E0 [2,3,5]) λ_=>E0 [2,3])
theorem IU (d:Nat) {a:aC} {bg:aC} {s5:Int} {r:Unit⊕Unit} (h:Ey a bg s5=some r):bN (eY (aV (aF aH (d+0)) KK 73 ai5) [2,3,5] KK) 0 (jJ [2,3,5] (tC a bg s5)) (yg a bg r) :=
 cO (st:=tC a bg) (fin:=yg a bg) (step:=qG a bg) (λe=>by rcases e with e | e<;>(intro h;cases h)) (λs x h=>Uu d h) KK s5 r h
def tF (a:aC) (bg:aC) (s12:Int):List AV×WH:=([(.ptr (some (0,0))),(.ptr (some (1,0))),(.int .i64 s12)],[(some (.cells (bK a) false false)),(some (.cells (bK bg) false false))])
def yh (a:aC) (bg:aC):Unit⊕Unit→Ex×Fast×WH:=fun
 | .inl e=>(.ret,[(4,(.bool false))],[])
 | .inr e=>((.exit 2),[],[])
abbrev Sg (a:aC) (bg:aC):=dF [2,3,6] (tF a bg) (yh a bg)
def qH (a:aC) (bg:aC) (s12:Int):Option ((Int)⊕(Unit⊕Unit)) :=
 cond (decide (s12 < (a.dN.length:Int))) ((bV a.dN s12).bind λ(qE:au)=>(bV bg.dN s12).bind λ(m_:au)=>cond (!(qE.Client==m_.Client&&(qE.Seq==m_.Seq&&(qE.Answer.Why==m_.Answer.Why&&(qE.Answer.Value==m_.Answer.Value&&true))))) (some (.inr (.inl ()))) (some (.inl (IntKind.i64.wrap (s12+1))))) (some (.inr (.inr ())))
def Ez (a:aC) (bg:aC) (s12:Int):Option (Unit⊕Unit):=bQ (qH a bg) KK s12
theorem Uv (d:Nat) {a:aC} {bg:aC} {s12:Int} {r:(Int)⊕(Unit⊕Unit)} (h:qH a bg s12=some r):bN (aV (aF aH (d+0)) KK 73 ai6) 0 (jJ [2,3,6] (tF a bg s12)) (Sg a bg r):=by
 unfold qH at h
 exact bC nB alL h (.br 59 (λ_=>.bd λqE Yf=>Ix bW 65 Yf <| .bd λm_ ND=>Ix bW 70 ND <| .br 72 (λ_=>E0 [4]) λ_=>E0 [2,3,6]) λ_=>E0 [])
theorem IV (d:Nat) {a:aC} {bg:aC} {s12:Int} {r:Unit⊕Unit} (h:Ez a bg s12=some r):bN (eY (aV (aF aH (d+0)) KK 73 ai6) [2,3,6] KK) 0 (jJ [2,3,6] (tF a bg s12)) (yh a bg r) :=
 cO (st:=tF a bg) (fin:=yh a bg) (step:=qH a bg) (λe=>by rcases e with e | e<;>(intro h;cases h)) (λs x h=>Uv d h) KK s12 r h
def qI (a:aC) (bg:aC):Option (Bool) :=
 (za a bg).bind λ(x1:Unit⊕Unit)=>cond (jO x1) (some false) ((Ey a bg 0).bind λ(x8:Unit⊕Unit)=>cond (jO x8) (some false) ((Ez a bg 0).bind λ(bX:Unit⊕Unit)=>cond (jO bX) (some false) (some true)))
def KF (a:aC) (bg:aC) (r:Bool):AV×WH:=((.bool r),[])
theorem OP (d:Nat) {a:aC} {bg:aC} {r:Bool} (h:qI a bg=some r):Spec (aF aH (d+1)) 64 [(.agg (bK a)),(.agg (bK bg))] [] (KF a bg r).1 (KF a bg r).2:=by
 unfold qI at h
 exact aZ nB ay2 h (.sk <| .bd λx1 q1=>.ite (λhb2=>Jn [2,3] [none,none] [] [] (j6 (il hb2) (IQ (d+0) q1)) <| Fn Fo [] none) λhb2=>Jn [2,3] [none,none] [] [] (j6 (Ai hb2) (IQ (d+0) q1)) <| .bd λx8 q8=>.ite (λhb9=>Lp [none,none,none] [] [] (j6 (il hb9) (IU (d+0) q8)) <| Fn Fo [] none) λhb9=>Lp [none,none,none] [] [] (j6 (Ai hb9) (IU (d+0) q8)) <| .bd λbX ML=>.ite (λaaK=>Lp [none,none,none] [] [] (j6 (il aaK) (IV (d+0) ML)) <| Fn Fo [] none) λaaK=>Lp [none,none,none] [] [] (j6 (Ai aaK) (IV (d+0) ML)) <| Fn Fo [] none)
abbrev QB (aQ:aC):Fast×WH:=([(1,(.ptr (some (0,0))))],[(some (.cells (bK aQ) false false))])
def OQ (aQ:aC):Unit⊕Unit→Ex×Fast×WH:=fun
 | .inl e=>(.ret,[(2,(.bool false))],[])
 | .inr e=>(.normal,[(1,(.ptr (some (0,0))))],[(some (.cells (bK aQ) false false))])
def lq (aQ:aC):Option (Unit⊕Unit) :=
 cond (decide (aQ.dR < 0)) (some (.inl ())) (cond (decide (aQ.dR≥6)) (some (.inl ())) (cond (decide (aQ.Epoch < 1)) (some (.inl ())) (cond (decide (aQ.Epoch > 1099511627776)) (some (.inl ())) (some (.inr ())))))
theorem Gq (d:Nat) {aQ:aC} {r:Unit⊕Unit} (h:lq aQ=some r):bN (aV (aF aH (d+0)) KK 113 akJ) 0 (QB aQ) (OQ aQ r):=by
 unfold lq at h
 exact bC nB ajh h (.br 10 (λ_=>E0 [2]) λ_=>.br 15 (λ_=>E0 [2]) λ_=>.br 20 (λ_=>E0 [2]) λ_=>.br 24 (λ_=>E0 [2]) λ_=>E0 [1])
def rC (aQ:aC) (s6:Int):List AV×WH:=([(.ptr (some (0,0))),(.int .i64 s6)],[(some (.cells (bK aQ) false false))])
def vT (aQ:aC):Unit⊕Unit→Ex×Fast×WH:=fun
 | .inl e=>(.ret,[(2,(.bool false))],[])
 | .inr e=>((.exit 0),[(1,(.ptr (some (0,0))))],[(some (.cells (bK aQ) false false))])
abbrev QC (aQ:aC):=dF [1,3] (rC aQ) (vT aQ)
def jM (aQ:aC) (s6:Int):Option ((Int)⊕(Unit⊕Unit)) :=
 cond (decide (s6 < (aQ.Pairs.length:Int))) ((bV aQ.Pairs s6).bind λ(x7:av)=>cond (decide ((x7.Key.length:Int) < 1)) (some (.inr (.inl ()))) ((bV aQ.Pairs s6).bind λ(x8:av)=>cond (decide ((x8.Key.length:Int) > 8)) (some (.inr (.inl ()))) ((bV aQ.Pairs s6).bind λ(x9:av)=>cond (decide ((x9.Value.length:Int) > 16)) (some (.inr (.inl ()))) (some (.inl (IntKind.i64.wrap (s6+1))))))) (some (.inr (.inr ())))
def CF (aQ:aC) (s6:Int):Option (Unit⊕Unit):=bQ (jM aQ) KK s6
theorem Sj (d:Nat) {aQ:aC} {s6:Int} {r:(Int)⊕(Unit⊕Unit)} (h:jM aQ s6=some r):bN (aV (aF aH (d+0)) KK 113 aji) 0 (jJ [1,3] (rC aQ s6)) (QC aQ r):=by
 unfold jM at h
 exact bC nB alW h (.br 29 (λ_=>.bd λx7 q7=>Ix aO 35 q7 <| .br 40 (λ_=>E0 [2]) λ_=>.bd λx8 q8=>Ix aO 44 q8 <| .br 50 (λ_=>E0 [2]) λ_=>.bd λx9 q9=>Ix aO 54 q9 <| .br 59 (λ_=>E0 [2]) λ_=>E0 [1,3]) λ_=>E0 [1])
theorem Gs (d:Nat) {aQ:aC} {s6:Int} {r:Unit⊕Unit} (h:CF aQ s6=some r):bN (eY (aV (aF aH (d+0)) KK 113 aji) [1,3] KK) 0 (jJ [1,3] (rC aQ s6)) (vT aQ r) :=
 cO (st:=rC aQ) (fin:=vT aQ) (step:=jM aQ) (λe=>by rcases e with e | e<;>(intro h;cases h)) (λs x h=>Sj d h) KK s6 r h
abbrev QD (bX:au) (rD:Int) (aQ:aC):Fast×WH:=([(1,(.ptr (some (0,0)))),(4,(.int .i64 rD)),(5,(.ptr (some (1,0))))],[(some (.cells (bK aQ) false false)),(some (.cells (bS bX) false false))])
def OT (bX:au) (rD:Int) (aQ:aC):Bool→Ex×Fast×WH:=λe=>(.normal,[(1,(.ptr (some (0,0)))),(4,(.int .i64 rD)),(5,(.ptr (some (1,0)))),(6,(.bool e))],[(some (.cells (bK aQ) false false)),(some (.cells (bS bX) false false))])
def xw (bX:au) (rD:Int) (aQ:aC):Option (Bool) :=
 cond (bX.Answer.Why==0) (some true) (cond (bX.Answer.Why==4) (some true) (cond (bX.Answer.Why==5) (some true) (some (bX.Answer.Why==6))))
theorem Sk (d:Nat) {bX:au} {rD:Int} {aQ:aC} {r:Bool} (h:xw bX rD aQ=some r):bN (aV (aF aH (d+0)) KK 113 IE) 0 (QD bX rD aQ) (OT bX rD aQ r):=by
 unfold xw at h
 exact bC nB Oh h (.br 76 (λ_=>E0 [1,4,5,6]) λ_=>.br 82 (λ_=>E0 [1,4,5,6]) λ_=>.br 88 (λ_=>E0 [1,4,5,6]) λ_=>E0 [1,4,5,6])
def rE (aQ:aC) (rD:Int):List AV×WH:=([(.ptr (some (0,0))),(.int .i64 rD)],[(some (.cells (bK aQ) false false))])
def vU (aQ:aC):Unit⊕Unit→Ex×Fast×WH:=fun
 | .inl e=>(.ret,[(2,(.bool false))],[])
 | .inr e=>((.exit 2),[(1,(.ptr (some (0,0))))],[(some (.cells (bK aQ) false false))])
abbrev QE (aQ:aC):=dF [1,4] (rE aQ) (vU aQ)
def jN (aQ:aC) (rD:Int):Option ((Int)⊕(Unit⊕Unit)) :=
 cond (decide (rD < (aQ.dN.length:Int))) ((bV aQ.dN rD).bind λ(bX:au)=>(xw bX rD aQ).bind λ(mE:Bool)=>cond (!mE) (some (.inr (.inl ()))) (cond (decide (bX.Seq > 4611686018427387903)) (some (.inr (.inl ()))) (cond (decide ((bX.Answer.Value.length:Int) > 16)) (some (.inr (.inl ()))) (some (.inl (IntKind.i64.wrap (rD+1))))))) (some (.inr (.inr ())))
def CG (aQ:aC) (rD:Int):Option (Unit⊕Unit):=bQ (jN aQ) KK rD
theorem Sm (d:Nat) {aQ:aC} {rD:Int} {r:(Int)⊕(Unit⊕Unit)} (h:jN aQ rD=some r):bN (aV (aF aH (d+0)) KK 113 ajj) 0 (jJ [1,4] (rE aQ rD)) (QE aQ r):=by
 unfold jN at h
 exact bC nB alX h (.br 64 (λ_=>.bd λbX ML=>Ix bW 70 ML <| .st none <| .bd λmE q16=>Jn [1,4,5] [none,none,none] [] [] (Sk (d+0) q16) <| .br 96 (λ_=>E0 [2]) λ_=>.br 101 (λ_=>E0 [2]) λ_=>.br 107 (λ_=>E0 [2]) λ_=>E0 [1,4]) λ_=>E0 [1])
theorem Gt (d:Nat) {aQ:aC} {rD:Int} {r:Unit⊕Unit} (h:CG aQ rD=some r):bN (eY (aV (aF aH (d+0)) KK 113 ajj) [1,4] KK) 0 (jJ [1,4] (rE aQ rD)) (vU aQ r) :=
 cO (st:=rE aQ) (fin:=vU aQ) (step:=jN aQ) (λe=>by rcases e with e | e<;>(intro h;cases h)) (λs x h=>Sm d h) KK rD r h
def uF (aQ:aC):Option (Bool) :=
 (lq aQ).bind λ(x1:Unit⊕Unit)=>cond (jO x1) (some false) ((CF aQ 0).bind λ(x10:Unit⊕Unit)=>cond (jO x10) (some false) ((CG aQ 0).bind λ(jP:Unit⊕Unit)=>cond (jO jP) (some false) ((nG aQ).bind λ(mh:aS)=>(vS mh).bind λ(x20:aC)=>(qI aQ x20).bind λ(x21:Bool)=>some x21)))
def IW (aQ:aC) (r:Bool):AV×WH:=((.bool r),[])
theorem Yu (d:Nat) {aQ:aC} {r:Bool} (h:uF aQ=some r):Spec (aF aH (d+5)) 92 [(.agg (bK aQ))] [] (IW aQ r).1 (IW aQ r).2:=by
 unfold uF at h
 exact aZ nB azp h (.sk <| .bd λx1 q1=>.ite (λhb2=>Jn [1] [none] [] [] (j6 (il hb2) (Gq (d+4) q1)) <| Fn Fo [] none) λhb2=>Jn [1] [none] [] [] (j6 (Ai hb2) (Gq (d+4) q1)) <| .bd λx10 J_=>.ite (λavN=>Lp [none,none] [] [] (j6 (il avN) (Gs (d+4) J_)) <| Fn Fo [] none) λavN=>Lp [none,none] [] [] (j6 (Ai avN) (Gs (d+4) J_)) <| .bd λjP Jm=>.ite (λaaL=>Lp [none,none] [] [] (j6 (il aaL) (Gt (d+4) Jm)) <| Fn Fo [] none) λaaL=>Lp [none,none] [] [] (j6 (Ai aaL) (Gt (d+4) Jm)) <| .bd λmh Qw=>Cl [] Fo [.agg [.undef,.undef,.slice none 2 0 0 true,.slice none 4 0 0 true]] (Gg (d+0) Qw) <| .bd λx20 q20=>Cl [] Fo [] (Wh (d+3) q20) <| .bd λx21 q21=>Cb [.agg [.undef,.undef,.slice none 2 0 0 true,.slice none 4 0 0 true],.agg [.undef,.undef,.slice none 2 0 0 true,.slice none 4 0 0 true]] (OP (d+3) q21) <| Fn Fo [] none)
def sJ (aQ:aC):Option (Bool) :=
 (Fg aQ).bind λ(x1:Bool)=>cond x1 (some true) ((uF aQ).bind λ(x2:Bool)=>some x2)
def MR (aQ:aC) (r:Bool):AV×WH:=((.bool r),[])
theorem JG (d:Nat) {aQ:aC} {r:Bool} (h:sJ aQ=some r):Spec (aF aH (d+6)) 53 [(.agg (bK aQ))] [] (MR aQ r).1 (MR aQ r).2:=by
 unfold sJ at h
 exact aZ nB ayS h (.bd λx1 q1=>Cb [.agg [.undef,.undef,.slice none 2 0 0 true,.slice none 4 0 0 true]] (aaJ (d+4) q1) <| .br 5 (λ_=>Fn Fo [] none) λ_=>.bd λx2 q2=>Cb [.agg [.undef,.undef,.slice none 2 0 0 true,.slice none 4 0 0 true]] (Yu (d+0) q2) <| Fn Fo [] none)
def Gu (n:Int):Option (Bool) :=
 cond (decide (n≥0)) (some (decide (n≤4611686018427387903))) (some false)
def aaM (n:Int) (r:Bool):AV×WH:=((.bool r),[])
theorem Gv (d:Nat) {n:Int} {r:Bool} (h:Gu n=some r):Spec (aF aH (d+1)) 54 [(.int .i64 n)] [] (aaM n r).1 (aaM n r).2:=by
 unfold Gu at h
 exact aZ nB ayT h (.br 5 (λ_=>Fn Fo [] none) λ_=>Fn Fo [] none)
abbrev Uw (m:aM):Fast×WH:=([(1,(.ptr (some (0,0))))],[(some (.cells (dh m) false false))])
def Sn (m:aM):Unit⊕Unit→Ex×Fast×WH:=fun
 | .inl e=>(.ret,[(2,(.bool false))],[])
 | .inr e=>(.normal,[(1,(.ptr (some (0,0))))],[(some (.cells (dh m) false false))])
def Bb (m:aM):Option (Unit⊕Unit) :=
 cond (decide (m.Kind < 1)) (some (.inl ())) (cond (decide (m.Kind > 10)) (some (.inl ())) (cond (decide ((m.Path.length:Int) > 5)) (some (.inl ())) (cond (decide ((m.Table.length:Int) > 5)) (some (.inl ())) ((ql m.Fa).bind λ(x1:Bool)=>cond (!x1) (some (.inl ())) ((tu m.Answer).bind λ(x2:Bool)=>cond (!x2) (some (.inl ())) ((sJ m.mZ).bind λ(x3:Bool)=>cond (!x3) (some (.inl ())) (some (.inr ()))))))))
theorem KG (d:Nat) {m:aM} {r:Unit⊕Unit} (h:Bb m=some r):bN (aV (aF aH (d+6)) KK 120 akE) 0 (Uw m) (Sn m r):=by
 unfold Bb at h
 exact bC nB aiH h (.br 11 (λ_=>E0 [2]) λ_=>.br 16 (λ_=>E0 [2]) λ_=>.br 22 (λ_=>E0 [2]) λ_=>.br 28 (λ_=>E0 [2]) λ_=>.bd λx1 q1=>iN (DR (d+3) q1) <| .br 34 (λ_=>E0 [2]) λ_=>.bd λx2 q2=>iN (Gp (d+5) q2) <| .br 40 (λ_=>E0 [2]) λ_=>.bd λx3 q3=>Cb [.agg [.undef,.undef,.slice none 2 0 0 true,.slice none 4 0 0 true]] (JG (d+0) q3) <| .br 45 (λ_=>E0 [2]) λ_=>E0 [1])
def uW (m:aM) (s8:Int):List AV×WH:=([(.ptr (some (0,0))),(.agg [(.int .i64 m.From),(.int .i64 m.To),(.int .i64 m.dR),(.int .i64 m.Epoch),(.int .i64 m.Weight),(.int .i64 m.Load),(.int .i64 m.kT)]),(.int .i64 s8)],[(some (.cells (dh m) false false))])
def zF (m:aM):Unit⊕Unit→Ex×Fast×WH:=fun
 | .inl e=>(.ret,[(2,(.bool false))],[])
 | .inr e=>((.exit 0),[(1,(.ptr (some (0,0))))],[(some (.cells (dh m) false false))])
abbrev Ux (m:aM):=dF [1,60,61] (uW m) (zF m)
def rT (m:aM) (s8:Int):Option ((Int)⊕(Unit⊕Unit)) :=
 cond (decide (s8 < 7)) ((bV ([m.From,m.To,m.dR,m.Epoch,m.Weight,m.Load,m.kT]:List Int) s8).bind λ(x9:Int)=>(Gu x9).bind λ(x10:Bool)=>cond (!x10) (some (.inr (.inl ()))) (some (.inl (IntKind.i64.wrap (s8+1))))) (some (.inr (.inr ())))
def Gw (m:aM) (s8:Int):Option (Unit⊕Unit):=bQ (rT m) KK s8
theorem Wp (d:Nat) {m:aM} {s8:Int} {r:(Int)⊕(Unit⊕Unit)} (h:rT m s8=some r):bN (aV (aF aH (d+1)) KK 120 aiI) 0 (jJ [1,60,61] (uW m s8)) (Ux m r):=by
 unfold rT at h
 exact bC nB alp h (.br 62 (λ_=>.bd λx9 q9=>.v 63 (.int .i64 x9) <| .ob (aky IB q9:wP (.index false 7 1 (.c (.agg [(.int .i64 m.From),(.int .i64 m.To),(.int .i64 m.dR),(.int .i64 m.Epoch),(.int .i64 m.Weight),(.int .i64 m.Load),(.int .i64 m.kT)])) (.c (.int .i64 s8)))=some (.int .i64 x9)) <| .bd λx10 J_=>iN (Gv (d+0) J_) <| .br 66 (λ_=>E0 [2]) λ_=>E0 [1,60,61]) λ_=>E0 [1])
theorem KH (d:Nat) {m:aM} {s8:Int} {r:Unit⊕Unit} (h:Gw m s8=some r):bN (eY (aV (aF aH (d+1)) KK 120 aiI) [1,60,61] KK) 0 (jJ [1,60,61] (uW m s8)) (zF m r) :=
 cO (st:=uW m) (fin:=zF m) (step:=rT m) (λe=>by rcases e with e | e<;>(intro h;cases h)) (λs x h=>Wp d h) KK s8 r h
def uX (m:aM) (s15:Int):List AV×WH:=([(.ptr (some (0,0))),(.int .i64 s15)],[(some (.cells (dh m) false false))])
def zG (m:aM):Unit⊕Unit→Ex×Fast×WH:=fun
 | .inl e=>(.ret,[(2,(.bool false))],[])
 | .inr e=>((.exit 2),[(1,(.ptr (some (0,0))))],[(some (.cells (dh m) false false))])
abbrev Uy (m:aM):=dF [1,5] (uX m) (zG m)
def nW (m:aM) (s15:Int):Option ((Int)⊕(Unit⊕Unit)) :=
 cond (decide (s15 < (m.Path.length:Int))) ((bV m.Path s15).bind λ(mE:Int)=>(Gu mE).bind λ(jP:Bool)=>cond (!jP) (some (.inr (.inl ()))) (some (.inl (IntKind.i64.wrap (s15+1))))) (some (.inr (.inr ())))
def Gx (m:aM) (s15:Int):Option (Unit⊕Unit):=bQ (nW m) KK s15
theorem Wq (d:Nat) {m:aM} {s15:Int} {r:(Int)⊕(Unit⊕Unit)} (h:nW m s15=some r):bN (aV (aF aH (d+1)) KK 120 aiJ) 0 (jJ [1,5] (uX m s15)) (Uy m r):=by
 unfold nW at h
 exact bC nB alq h (.br 72 (λ_=>.bd λmE q16=>Ix IB 78 q16 <| .bd λjP Jm=>iN (Gv (d+0) Jm) <| .br 81 (λ_=>E0 [2]) λ_=>E0 [1,5]) λ_=>E0 [1])
theorem KI (d:Nat) {m:aM} {s15:Int} {r:Unit⊕Unit} (h:Gx m s15=some r):bN (eY (aV (aF aH (d+1)) KK 120 aiJ) [1,5] KK) 0 (jJ [1,5] (uX m s15)) (zG m r) :=
 cO (st:=uX m) (fin:=zG m) (step:=nW m) (λe=>by rcases e with e | e<;>(intro h;cases h)) (λs x h=>Wq d h) KK s15 r h
def uY (m:aM) (s24:Int):List AV×WH:=([(.ptr (some (0,0))),(.int .i64 s24)],[(some (.cells (dh m) false false))])
def zH (m:aM):Unit⊕Unit→Ex×Fast×WH:=fun
 | .inl e=>(.ret,[(2,(.bool false))],[])
 | .inr e=>((.exit 4),[],[])
abbrev Uz (m:aM):=dF [1,6] (uY m) (zH m)
def nX (m:aM) (s24:Int):Option ((Int)⊕(Unit⊕Unit)) :=
 cond (decide (s24 < (m.Table.length:Int))) ((bV m.Table s24).bind λ(x25:aA)=>(Gu x25.Inc).bind λ(jd:Bool)=>cond (!jd) (some (.inr (.inl ()))) (cond (decide (x25.Status < 0)) (some (.inr (.inl ()))) (cond (decide (x25.Status > 2)) (some (.inr (.inl ()))) ((Gu x25.qZ).bind λ(x27:Bool)=>cond (!x27) (some (.inr (.inl ()))) ((Gu x25.Load).bind λ(x28:Bool)=>cond (!x28) (some (.inr (.inl ()))) (some (.inl (IntKind.i64.wrap (s24+1))))))))) (some (.inr (.inr ())))
def Gy (m:aM) (s24:Int):Option (Unit⊕Unit):=bQ (nX m) KK s24
theorem Ws (d:Nat) {m:aM} {s24:Int} {r:(Int)⊕(Unit⊕Unit)} (h:nX m s24=some r):bN (aV (aF aH (d+1)) KK 120 aiK) 0 (jJ [1,6] (uY m s24)) (Uz m r):=by
 unfold nX at h
 exact bC nB alr h (.br 86 (λ_=>.bd λx25 q25=>Ix kK 92 q25 <| .st none <| .bd λjd q26=>iN (Gv (d+0) q26) <| .br 98 (λ_=>E0 [2]) λ_=>.br 103 (λ_=>E0 [2]) λ_=>.br 108 (λ_=>E0 [2]) λ_=>.bd λx27 q27=>iN (Gv (d+0) q27) <| .br 114 (λ_=>E0 [2]) λ_=>.bd λx28 q28=>iN (Gv (d+0) q28) <| .br 119 (λ_=>E0 [2]) λ_=>E0 [1,6]) λ_=>E0 [])
theorem KJ (d:Nat) {m:aM} {s24:Int} {r:Unit⊕Unit} (h:Gy m s24=some r):bN (eY (aV (aF aH (d+1)) KK 120 aiK) [1,6] KK) 0 (jJ [1,6] (uY m s24)) (zH m r) :=
 cO (st:=uY m) (fin:=zH m) (step:=nX m) (λe=>by rcases e with e | e<;>(intro h;cases h)) (λs x h=>Ws d h) KK s24 r h
def qJ (m:aM):Option (Bool) :=
 (Bb m).bind λ(x4:Unit⊕Unit)=>cond (jO x4) (some false) ((Gw m 0).bind λ(bY:Unit⊕Unit)=>cond (jO bY) (some false) ((Gx m 0).bind λ(x18:Unit⊕Unit)=>cond (jO x18) (some false) ((Gy m 0).bind λ(x29:Unit⊕Unit)=>cond (jO x29) (some false) (some true))))
def MS (m:aM) (r:Bool):AV×WH:=((.bool r),[])
theorem JH (d:Nat) {m:aM} {r:Bool} (h:qJ m=some r):Spec (aF aH (d+7)) 11 [(.agg (dh m))] [] (MS m r).1 (MS m r).2:=by
 unfold qJ at h
 exact aZ nB ayr h (.sk <| .bd λx4 q4=>.ite (λhb5=>Jn [1] [none] [] [] (j6 (il hb5) (KG (d+0) q4)) <| Fn Fo [] none) λhb5=>Jn [1] [none] [] [] (j6 (Ai hb5) (KG (d+0) q4)) <| .bd λbY Hz=>.ite (λR9=>Lp [none,none,none] [] [] (j6 (il R9) (KH (d+5) Hz)) <| Fn Fo [] none) λR9=>Lp [none,none,none] [] [] (j6 (Ai R9) (KH (d+5) Hz)) <| .bd λx18 V_=>.ite (λajH=>Lp [none,none] [] [] (j6 (il ajH) (KI (d+5) V_)) <| Fn Fo [] none) λajH=>Lp [none,none] [] [] (j6 (Ai ajH) (KI (d+5) V_)) <| .bd λx29 q29=>.ite (λajI=>Lp [none,none] [] [] (j6 (il ajI) (KJ (d+5) q29)) <| Fn Fo [] none) λajI=>Lp [none,none] [] [] (j6 (Ai ajI) (KJ (d+5) q29)) <| Fn Fo [] none)
def UA (bg:Bool):Option (Int) :=
 cond bg (some 1) (some 0)
def XJ (bg:Bool) (r:Int):AV×WH:=((.int .i64 r),[])
theorem adM (d:Nat) {bg:Bool} {r:Int} (h:UA bg=some r):Spec (aF aH (d+1)) 39 [(.bool bg)] [] (XJ bg r).1 (XJ bg r).2:=by
 unfold UA at h
 exact aZ nB ayE h (.br 3 (λ_=>Fn Fo [] none) λ_=>Fn Fo [] none)
def Fh (l:List Int) (s9:Int×List UInt8) (s13:Int×List UInt8):List AV×WH:=([(J9 l),(.acc 0 0 1 s13.2.length true),(.int .i64 s9.1),(.int .i64 s13.1)],[(some (.cells (DF s13.2) false true))])
def JI (l:List Int) (s9:Int×List UInt8):(Int×List UInt8)→Ex×Fast×WH:=λe=>((.exit 2),[(1,(J9 l)),(5,(.acc 0 0 1 e.2.length true)),(6,(.int .i64 s9.1)),(7,(.int .i64 e.1))],[(some (.cells (DF e.2) false true))])
abbrev afb (l:List Int) (s9:Int×List UInt8):=dF [1,5,6,7] (Fh l s9) (JI l s9)
def IX (l:List Int) (s9:Int×List UInt8) (s13:Int×List UInt8):Option ((Int×List UInt8)⊕((Int×List UInt8))) :=
 cond (decide (s13.1≥128)) (gd (dx 1 (s13.2++[(Af (IntKind.i64.wrap (128+(Int.tmod s13.1 128))))]).length) (some (.inl ((IntKind.i64.wrap (Int.tdiv s13.1 128)),(s13.2++[(Af (IntKind.i64.wrap (128+(Int.tmod s13.1 128))))]))))) (some (.inr (s13.1,s13.2)))
def adN (l:List Int) (s9:Int×List UInt8) (s13:Int×List UInt8):Option ((Int×List UInt8)):=bQ (IX l s9) KK s13
theorem ahy (d:Nat) {l:List Int} {s9:Int×List UInt8} {s13:Int×List UInt8} {r:(Int×List UInt8)⊕((Int×List UInt8))} (h:IX l s9 s13=some r):bN (aV (aF aH (d+0)) KK 41 aad) 0 (jJ [1,5,6,7] (Fh l s9 s13)) (afb l s9 r):=by
 unfold IX at h
 exact bC nB ado h (.br 25 (λ_=>.v 30 (.int .u8 ((Af (IntKind.i64.wrap (128+(Int.tmod s13.1 128)))).toNat:Int)) <| .ob (aey _:@Eq (Option AV) (some (.int .u8 (IntKind.u8.wrap (IntKind.i64.wrap (128+(Int.tmod s13.1 128)))))) (some (.int .u8 ((Af (IntKind.i64.wrap (128+(Int.tmod s13.1 128)))).toNat:Int)))) <| .gd λND=>Ap LA 32 ND <| E0 [1,5,6,7]) λ_=>E0 [1,5,6,7])
theorem ahz (d:Nat) {l:List Int} {s9:Int×List UInt8} {s13:Int×List UInt8} {r:(Int×List UInt8)} (h:adN l s9 s13=some r):bN (eY (aV (aF aH (d+0)) KK 41 aad) [1,5,6,7] KK) 0 (jJ [1,5,6,7] (Fh l s9 s13)) (JI l s9 r) :=
 cO (st:=Fh l s9) (fin:=JI l s9) (step:=IX l s9) (λe=>by (intro h;cases h)) (λs x h=>ahy d h) KK s13 r h
def Fj (l:List Int) (s9:Int×List UInt8):List AV×WH:=([(J9 l),(.acc 0 0 1 s9.2.length true),(.int .i64 s9.1)],[(some (.cells (DF s9.2) false true))])
def JJ (l:List Int):Unit⊕(List UInt8)→Ex×Fast×WH:=fun
 | .inl e=>(.ret,[(4,(.slice none 1 0 0 true))],[])
 | .inr e=>((.exit 0),[(5,(.acc 0 0 1 e.length true))],[(some (.cells (DF e) false true))])
abbrev afc (l:List Int):=dF [1,5,6] (Fj l) (JJ l)
def IY (l:List Int) (s9:Int×List UInt8):Option ((Int×List UInt8)⊕(Unit⊕(List UInt8))) :=
 cond (decide (s9.1 < (l.length:Int))) ((bV l s9.1).bind λ(x10:Int)=>(Gu x10).bind λ(bY:Bool)=>cond (!bY) (some (.inr (.inl ()))) ((adN l s9 (x10,s9.2)).bind λ(bX:(Int×List UInt8))=>gd (dx 1 (bX.2++[(Af bX.1)]).length) (some (.inl ((IntKind.i64.wrap (s9.1+1)),(bX.2++[(Af bX.1)])))))) (some (.inr (.inr s9.2)))
def adO (l:List Int) (s9:Int×List UInt8):Option (Unit⊕(List UInt8)):=bQ (IY l) KK s9
theorem ahA (d:Nat) {l:List Int} {s9:Int×List UInt8} {r:(Int×List UInt8)⊕(Unit⊕(List UInt8))} (h:IY l s9=some r):bN (aV (aF aH (d+1)) KK 41 aac) 0 (jJ [1,5,6] (Fj l s9)) (afc l r):=by
 unfold IY at h
 exact bC nB adn h (.br 14 (λ_=>.bd λx10 J_=>Ix IB 19 J_ <| .bd λbY Hz=>iN (Gv (d+0) Hz) <| .br 23 (λ_=>E0 [4]) λ_=>.bd λbX ML=>Lp [none,none,none,none] [] [] (ahz (d+1) ML) <| .v 37 (.int .u8 ((Af bX.1).toNat:Int)) <| .ob (aey _:@Eq (Option AV) (some (.int .u8 (IntKind.u8.wrap bX.1))) (some (.int .u8 ((Af bX.1).toNat:Int)))) <| .gd λq16=>Ap LA 39 q16 <| E0 [1,5,6]) λ_=>E0 [5])
theorem XK (d:Nat) {l:List Int} {s9:Int×List UInt8} {r:Unit⊕(List UInt8)} (h:adO l s9=some r):bN (eY (aV (aF aH (d+1)) KK 41 aac) [1,5,6] KK) 0 (jJ [1,5,6] (Fj l s9)) (JJ l r) :=
 cO (st:=Fj l) (fin:=JJ l) (step:=IY l) (λe=>by rcases e with e | e<;>(intro h;cases h)) (λs x h=>ahA d h) KK s9 r h
def CJ (bg:List UInt8) (l:List Int):Option (List UInt8) :=
 gd (dx 1 bg.length) ((adO l (0,bg)).bind λ(jP:Unit⊕(List UInt8))=>cond (jO jP) (some []) (some (X8 jP)))
def aaN (bg:List UInt8) (l:List Int) (r:List UInt8):AV×WH:=((kS r),[])
theorem yO (d:Nat) {bg:List UInt8} {l:List Int} {r:List UInt8} (h:CJ bg l=some r):Spec (aF aH (d+2)) 38 [(kS bg),(J9 l)] [] (aaN bg l r).1 (aaN bg l r).2:=by
 unfold CJ at h
 exact aZ nB aw0 h (.gd λq1=>Ap0 LA 10 q1 <| .bd λjP Jm=>.ite (λaaL=>Lp [none,none,none] [] [] (j6 (il aaL) (XK (d+0) Jm)) <| Fn Fo [] none) λaaL=>Lp [none,none,none] [] [] (j6 (Ai aaL) (XK (d+0) Jm)) <| Fn Fo [] none)
def Bc (l:List Int) (s9:Int×List UInt8) (s13:Int×List UInt8):List AV×WH:=([(J9 l),(.acc 0 0 1 s13.2.length true),(.int .i64 s9.1),(.int .i64 s13.1)],[(some (.cells (DF s13.2) false true))])
def EA (l:List Int) (s9:Int×List UInt8):(Int×List UInt8)→Ex×Fast×WH:=λe=>((.exit 2),[(1,(J9 l)),(5,(.acc 0 0 1 e.2.length true)),(6,(.int .i64 s9.1)),(7,(.int .i64 e.1))],[(some (.cells (DF e.2) false true))])
abbrev aaO (l:List Int) (s9:Int×List UInt8):=dF [1,5,6,7] (Bc l s9) (EA l s9)
def lT (l:List Int) (s9:Int×List UInt8) (s13:Int×List UInt8):Option ((Int×List UInt8)⊕((Int×List UInt8))) :=
 cond (decide (s13.1≥128)) (gd (dx 1 (s13.2++[(Af (IntKind.i64.wrap (128+(Int.tmod s13.1 128))))]).length) (some (.inl ((IntKind.i64.wrap (Int.tdiv s13.1 128)),(s13.2++[(Af (IntKind.i64.wrap (128+(Int.tmod s13.1 128))))]))))) (some (.inr (s13.1,s13.2)))
def OU (l:List Int) (s9:Int×List UInt8) (s13:Int×List UInt8):Option ((Int×List UInt8)):=bQ (lT l s9) KK s13
theorem ace (d:Nat) {l:List Int} {s9:Int×List UInt8} {s13:Int×List UInt8} {r:(Int×List UInt8)⊕((Int×List UInt8))} (h:lT l s9 s13=some r):bN (aV (aF aH (d+0)) KK 41 aad) 0 (jJ [1,5,6,7] (Bc l s9 s13)) (aaO l s9 r):=by
 unfold lT at h
 exact bC nB ado h (.br 25 (λ_=>.v 30 (.int .u8 ((Af (IntKind.i64.wrap (128+(Int.tmod s13.1 128)))).toNat:Int)) <| .ob (aey _:@Eq (Option AV) (some (.int .u8 (IntKind.u8.wrap (IntKind.i64.wrap (128+(Int.tmod s13.1 128)))))) (some (.int .u8 ((Af (IntKind.i64.wrap (128+(Int.tmod s13.1 128)))).toNat:Int)))) <| .gd λND=>Ap LA 32 ND <| E0 [1,5,6,7]) λ_=>E0 [1,5,6,7])
theorem acf (d:Nat) {l:List Int} {s9:Int×List UInt8} {s13:Int×List UInt8} {r:(Int×List UInt8)} (h:OU l s9 s13=some r):bN (eY (aV (aF aH (d+0)) KK 41 aad) [1,5,6,7] KK) 0 (jJ [1,5,6,7] (Bc l s9 s13)) (EA l s9 r) :=
 cO (st:=Bc l s9) (fin:=EA l s9) (step:=lT l s9) (λe=>by (intro h;cases h)) (λs x h=>ace d h) KK s13 r h
def Bd (l:List Int) (s9:Int×List UInt8):List AV×WH:=([(J9 l),(.acc 0 0 1 s9.2.length true),(.int .i64 s9.1)],[(some (.cells (DF s9.2) false true))])
def EB (l:List Int):Unit⊕(List UInt8)→Ex×Fast×WH:=fun
 | .inl e=>(.ret,[(4,(.slice none 1 0 0 true))],[])
 | .inr e=>((.exit 0),[(5,(.acc 0 0 1 e.length true))],[(some (.cells (DF e) false true))])
abbrev aaP (l:List Int):=dF [1,5,6] (Bd l) (EB l)
def yP (l:List Int) (s9:Int×List UInt8):Option ((Int×List UInt8)⊕(Unit⊕(List UInt8))) :=
 cond (decide (s9.1 < (l.length:Int))) ((bV l s9.1).bind λ(x10:Int)=>(Gu x10).bind λ(bY:Bool)=>cond (!bY) (some (.inr (.inl ()))) ((OU l s9 (x10,s9.2)).bind λ(bX:(Int×List UInt8))=>gd (dx 1 (bX.2++[(Af bX.1)]).length) (some (.inl ((IntKind.i64.wrap (s9.1+1)),(bX.2++[(Af bX.1)])))))) (some (.inr (.inr s9.2)))
def OV (l:List Int) (s9:Int×List UInt8):Option (Unit⊕(List UInt8)):=bQ (yP l) KK s9
theorem acg (d:Nat) {l:List Int} {s9:Int×List UInt8} {r:(Int×List UInt8)⊕(Unit⊕(List UInt8))} (h:yP l s9=some r):bN (aV (aF aH (d+1)) KK 41 aac) 0 (jJ [1,5,6] (Bd l s9)) (aaP l r):=by
 unfold yP at h
 exact bC nB adn h (.br 14 (λ_=>.bd λx10 J_=>Ix IB 19 J_ <| .bd λbY Hz=>iN (Gv (d+0) Hz) <| .br 23 (λ_=>E0 [4]) λ_=>.bd λbX ML=>Lp [none,none,none,none] [] [] (acf (d+1) ML) <| .v 37 (.int .u8 ((Af bX.1).toNat:Int)) <| .ob (aey _:@Eq (Option AV) (some (.int .u8 (IntKind.u8.wrap bX.1))) (some (.int .u8 ((Af bX.1).toNat:Int)))) <| .gd λq16=>Ap LA 39 q16 <| E0 [1,5,6]) λ_=>E0 [5])
theorem Rm (d:Nat) {l:List Int} {s9:Int×List UInt8} {r:Unit⊕(List UInt8)} (h:OV l s9=some r):bN (eY (aV (aF aH (d+1)) KK 41 aac) [1,5,6] KK) 0 (jJ [1,5,6] (Bd l s9)) (EB l r) :=
 cO (st:=Bd l) (fin:=EB l) (step:=yP l) (λe=>by rcases e with e | e<;>(intro h;cases h)) (λs x h=>acg d h) KK s9 r h
def OW (bg:List UInt8) (l:List Int):Option (List UInt8) :=
 gd (dx 1 bg.length) ((OV l (0,bg)).bind λ(jP:Unit⊕(List UInt8))=>cond (jO jP) (some []) (some (X8 jP)))
def xA (bg:List UInt8) (l:List Int) (r:List UInt8):AV×WH:=((.acc 0 0 1 r.length true),[(some (.cells (DF r) false true))])
theorem ajJ (d:Nat) {bg:List UInt8} {l:List Int} {r:List UInt8} (h:OW bg l=some r):Spec (aF aH (d+2)) 38 [(kS bg),(J9 l)] [] (xA bg l r).1 (xA bg l r).2:=by
 unfold OW at h
 exact aZ nB aw0 h (.gd λq1=>Ap0 LA 10 q1 <| .bd λjP Jm=>.ite (λaaL=>Lp [none,none,none] [] [] (j6 (il aaL) (Rm (d+0) Jm)) <| .xQ (.fin (some true) [] none) _ (λr=>@Eq AV (.acc 0 0 1 0 true) (xA bg l r).1∧@Eq WH [(some (.cells (DF []) false true))] (xA bg l r).2) (by show _∧_;refine ⟨?_, ?_⟩<;>first | rfl | (simp only [xA,List.length_set,List.length_append,List.length_replicate,List.length_cons,List.length_nil,List.length_take,List.length_drop,Nat.add_zero,Nat.zero_add];done) | simp [xA])) λaaL=>Lp [none,none,none] [] [] (j6 (Ai aaL) (Rm (d+0) Jm)) <| Fn Tw [] none)
def Dj (l:List (List UInt8)) (s6:Int×List UInt8):List AV×WH:=([(l_S l),(.acc 0 0 1 s6.2.length true),(.int .i64 s6.1)],[(some (.cells (DF s6.2) false true))])
def Gz (l:List (List UInt8)):(List UInt8)→Ex×Fast×WH:=λe=>((.exit 0),[(5,(.acc 0 0 1 e.length true))],[(some (.cells (DF e) false true))])
abbrev ach (l:List (List UInt8)):=dF [1,5,6] (Dj l) (Gz l)
def tH (l:List (List UInt8)) (s6:Int×List UInt8):Option ((Int×List UInt8)⊕((List UInt8))) :=
 cond (decide (s6.1 < (l.length:Int))) ((bV l s6.1).bind λ(x7:List UInt8)=>(OW s6.2 ([(x7.length:Int)])).bind λ(x8:List UInt8)=>(bV l s6.1).bind λ(x9:List UInt8)=>gd (dx 1 (x8++x9).length) (some (.inl ((IntKind.i64.wrap (s6.1+1)),(x8++x9))))) (some (.inr s6.2))
def Sq (l:List (List UInt8)) (s6:Int×List UInt8):Option ((List UInt8)):=bQ (tH l) KK s6
theorem afd (d:Nat) {l:List (List UInt8)} {s6:Int×List UInt8} {r:(Int×List UInt8)⊕((List UInt8))} (h:tH l s6=some r):bN (aV (aF aH (d+2)) KK 30 ajb) 0 (jJ [1,5,6] (Dj l s6)) (ach l r):=by
 unfold tH at h
 exact bC nB alR h (.br 13 (λ_=>.bd λx7 q7=>Ix R_S 19 q7 <| .bd λx8 q8=>Cl [] Fo [] (ajJ (d+0) q8) <| .bd λx9 q9=>Ix R_S 26 q9 <| .gd λJ_=>Ap LA 28 J_ <| E0 [1,5,6]) λ_=>E0 [5])
theorem afe (d:Nat) {l:List (List UInt8)} {s6:Int×List UInt8} {r:(List UInt8)} (h:Sq l s6=some r):bN (eY (aV (aF aH (d+2)) KK 30 ajb) [1,5,6] KK) 0 (jJ [1,5,6] (Dj l s6)) (Gz l r) :=
 cO (st:=Dj l) (fin:=Gz l) (step:=tH l) (λe=>by (intro h;cases h)) (λs x h=>afd d h) KK s6 r h
def LU (bg:List UInt8) (l:List (List UInt8)):Option (List UInt8) :=
 gd (dx 1 bg.length) ((Sq l (0,bg)).bind λ(bY:(List UInt8))=>some bY)
def XL (bg:List UInt8) (l:List (List UInt8)) (r:List UInt8):AV×WH:=((kS r),[])
theorem Wt (d:Nat) {bg:List UInt8} {l:List (List UInt8)} {r:List UInt8} (h:LU bg l=some r):Spec (aF aH (d+3)) 85 [(kS bg),(l_S l)] [] (XL bg l r).1 (XL bg l r).2:=by
 unfold LU at h
 exact aZ nB azi h (.gd λq1=>Ap0 LA 9 q1 <| .bd λbY Hz=>Lp [none,none,none] [] [] (afe (d+0) Hz) <| Fn Fo [] none)
def KL (bg:List UInt8) (p_r:aU):Option (List UInt8) :=
 (ql p_r).bind λ(x1:Bool)=>cond (!x1) (some []) ((CJ bg ([p_r.Client,p_r.Seq,p_r.Op.Kind])).bind λ(x2:List UInt8)=>(LU x2 ([p_r.Op.Key,p_r.Op.Value,p_r.Op.Old])).bind λ(x3:List UInt8)=>some x3)
def Rn (bg:List UInt8) (p_r:aU) (r:List UInt8):AV×WH:=((kS r),[])
theorem ahB (d:Nat) {bg:List UInt8} {p_r:aU} {r:List UInt8} (h:KL bg p_r=some r):Spec (aF aH (d+4)) 41 [(kS bg),(.agg (uE p_r))] [] (Rn bg p_r r).1 (Rn bg p_r r).2:=by
 unfold KL at h
 exact aZ nB ayG h (.bd λx1 q1=>iN (DR (d+0) q1) <| .br 7 (λ_=>Fn Fo [] none) λ_=>.bd λx2 q2=>Cl [] Fo [] (yO (d+1) q2) <| .bd λx3 q3=>Cl [] Fo [] (Wt (d+0) q3) <| Fn Fo [] none)
def xB (bg:List UInt8) (a:aB):Option (List UInt8) :=
 (tu a).bind λ(x1:Bool)=>cond (!x1) (some []) ((CJ bg [a.Why]).bind λ(x2:List UInt8)=>(LU x2 [a.Value]).bind λ(x3:List UInt8)=>some x3)
def KM (bg:List UInt8) (a:aB) (r:List UInt8):AV×WH:=((kS r),[])
theorem OX (d:Nat) {bg:List UInt8} {a:aB} {r:List UInt8} (h:xB bg a=some r):Spec (aF aH (d+4)) 40 [(kS bg),(.agg (dZ a))] [] (KM bg a r).1 (KM bg a r).2:=by
 unfold xB at h
 exact aZ nB ayF h (.bd λx1 q1=>iN (Gp (d+2) q1) <| .br 7 (λ_=>Fn Fo [] none) λ_=>.bd λx2 q2=>Cl [] Fo [] (yO (d+1) q2) <| .bd λx3 q3=>Cl [] Fo [] (Wt (d+0) q3) <| Fn Fo [] none)
def uZ (aQ:aC) (s6:List UInt8×Int):List AV×WH:=([(.ptr (some (0,0))),(kS s6.1),(.int .i64 s6.2)],[(some (.cells (bK aQ) false false))])
def zI (aQ:aC):(List UInt8)→Ex×Fast×WH:=λe=>((.exit 0),[(3,(.ptr (some (0,0)))),(5,(kS e))],[(some (.cells (bK aQ) false false))])
abbrev UC (aQ:aC):=dF [3,5,6] (uZ aQ) (zI aQ)
def nY (aQ:aC) (s6:List UInt8×Int):Option ((List UInt8×Int)⊕((List UInt8))) :=
 cond (decide (s6.2 < (aQ.Pairs.length:Int))) ((bV aQ.Pairs s6.2).bind λ(x7:av)=>(bV aQ.Pairs s6.2).bind λ(x8:av)=>(LU s6.1 ([x7.Key,x8.Value])).bind λ(x9:List UInt8)=>some (.inl (x9,(IntKind.i64.wrap (s6.2+1))))) (some (.inr s6.1))
def Bf (aQ:aC) (s6:List UInt8×Int):Option ((List UInt8)):=bQ (nY aQ) KK s6
theorem Wu (d:Nat) {aQ:aC} {s6:List UInt8×Int} {r:(List UInt8×Int)⊕((List UInt8))} (h:nY aQ s6=some r):bN (aV (aF aH (d+3)) KK 79 aiW) 0 (jJ [3,5,6] (uZ aQ s6)) (UC aQ r):=by
 unfold nY at h
 exact bC nB alA h (.br 25 (λ_=>.bd λx7 q7=>Ix aO 32 q7 <| .bd λx8 q8=>Ix aO 38 q8 <| .bd λx9 q9=>Cl [] Fo [] (Wt (d+0) q9) <| E0 [3,5,6]) λ_=>E0 [3,5])
theorem Wv (d:Nat) {aQ:aC} {s6:List UInt8×Int} {r:(List UInt8)} (h:Bf aQ s6=some r):bN (eY (aV (aF aH (d+3)) KK 79 aiW) [3,5,6] KK) 0 (jJ [3,5,6] (uZ aQ s6)) (zI aQ r) :=
 cO (st:=uZ aQ) (fin:=zI aQ) (step:=nY aQ) (λe=>by (intro h;cases h)) (λs x h=>Wu d h) KK s6 r h
def u7 (aQ:aC) (s17:List UInt8×Int):List AV×WH:=([(.ptr (some (0,0))),(kS s17.1),(.int .i64 s17.2)],[(some (.cells (bK aQ) false false))])
def zJ (aQ:aC):(List UInt8)→Ex×Fast×WH:=λe=>((.exit 2),[(5,(kS e))],[])
abbrev UD (aQ:aC):=dF [3,5,7] (u7 aQ) (zJ aQ)
def nZ (aQ:aC) (s17:List UInt8×Int):Option ((List UInt8×Int)⊕((List UInt8))) :=
 cond (decide (s17.2 < (aQ.dN.length:Int))) ((bV aQ.dN s17.2).bind λ(x18:au)=>(bV aQ.dN s17.2).bind λ(mh:au)=>(CJ s17.1 ([x18.Client,mh.Seq])).bind λ(x20:List UInt8)=>(bV aQ.dN s17.2).bind λ(x21:au)=>(xB x20 x21.Answer).bind λ(FP:List UInt8)=>some (.inl (FP,(IntKind.i64.wrap (s17.2+1))))) (some (.inr s17.1))
def Bg (aQ:aC) (s17:List UInt8×Int):Option ((List UInt8)):=bQ (nZ aQ) KK s17
theorem Ww (d:Nat) {aQ:aC} {s17:List UInt8×Int} {r:(List UInt8×Int)⊕((List UInt8))} (h:nZ aQ s17=some r):bN (aV (aF aH (d+4)) KK 79 aiX) 0 (jJ [3,5,7] (u7 aQ s17)) (UD aQ r):=by
 unfold nZ at h
 exact bC nB alB h (.br 53 (λ_=>.bd λx18 V_=>Ix bW 60 V_ <| .bd λmh Qw=>Ix bW 66 Qw <| .bd λx20 q20=>Cl [] Fo [] (yO (d+2) q20) <| .er <| .ob (rfl:@Eq (Option AV) (some (dw aQ.dN)) (some (dw aQ.dN))) <| .bd λx21 q21=>Ix bW 74 q21 <| .bd λFP q22=>Cl [] Fo [] (OX (d+0) q22) <| E0 [3,5,7]) λ_=>E0 [5])
theorem Wx (d:Nat) {aQ:aC} {s17:List UInt8×Int} {r:(List UInt8)} (h:Bg aQ s17=some r):bN (eY (aV (aF aH (d+4)) KK 79 aiX) [3,5,7] KK) 0 (jJ [3,5,7] (u7 aQ s17)) (zJ aQ r) :=
 cO (st:=u7 aQ) (fin:=zJ aQ) (step:=nZ aQ) (λe=>by (intro h;cases h)) (λs x h=>Ww d h) KK s17 r h
def D5 (bg:List UInt8) (aQ:aC):Option (List UInt8) :=
 (sJ aQ).bind λ(x1:Bool)=>cond (!x1) (some []) ((CJ bg ([aQ.dR,aQ.Epoch,(aQ.Pairs.length:Int)])).bind λ(x2:List UInt8)=>(Bf aQ (x2,0)).bind λ(x10:(List UInt8))=>(CJ x10 ([(aQ.dN.length:Int)])).bind λ(bY:List UInt8)=>(Bg aQ (bY,0)).bind λ(x23:(List UInt8))=>some x23)
def MU (bg:List UInt8) (aQ:aC) (r:List UInt8):AV×WH:=((kS r),[])
theorem acj (d:Nat) {bg:List UInt8} {aQ:aC} {r:List UInt8} (h:D5 bg aQ=some r):Spec (aF aH (d+7)) 42 [(kS bg),(.agg (bK aQ))] [] (MU bg aQ r).1 (MU bg aQ r).2:=by
 unfold D5 at h
 exact aZ nB ayH h (.bd λx1 q1=>Cb [.agg [.undef,.undef,.slice none 2 0 0 true,.slice none 4 0 0 true]] (JG (d+0) q1) <| .br 10 (λ_=>Fn Fo [] none) λ_=>.bd λx2 q2=>Cl [] Fo [] (yO (d+4) q2) <| .bd λx10 J_=>Lp [none,none,none] [] [] (Wv (d+3) J_) <| .bd λbY Hz=>Cl [] Fo [] (yO (d+4) Hz) <| .bd λx23 q23=>Lp [none,none,none] [] [] (Wx (d+2) q23) <| Fn Fo [] none)
def ze (m:aM) (s12:List UInt8×Int):List AV×WH:=([(.ptr (some (0,0))),(kS s12.1),(.int .i64 s12.2)],[(some (.cells (dh m) false false))])
def CK (m:aM):(List UInt8)→Ex×Fast×WH:=λe=>((.exit 0),[(1,(.ptr (some (0,0)))),(3,(kS e))],[(some (.cells (dh m) false false))])
abbrev Yv (m:aM):=dF [1,3,4] (ze m) (CK m)
def rU (m:aM) (s12:List UInt8×Int):Option ((List UInt8×Int)⊕((List UInt8))) :=
 cond (decide (s12.2 < (m.Table.length:Int))) ((bV m.Table s12.2).bind λ(qE:aA)=>(UA qE.dL).bind λ(m_:Int)=>(CJ s12.1 ([qE.Inc,qE.Status,qE.qZ,qE.Load,m_])).bind λ(bX:List UInt8)=>some (.inl (bX,(IntKind.i64.wrap (s12.2+1))))) (some (.inr s12.1))
def Fp (m:aM) (s12:List UInt8×Int):Option ((List UInt8)):=bQ (rU m) KK s12
theorem aaQ (d:Nat) {m:aM} {s12:List UInt8×Int} {r:(List UInt8×Int)⊕((List UInt8))} (h:rU m s12=some r):bN (aV (aF aH (d+2)) KK 82 anE) 0 (jJ [1,3,4] (ze m s12)) (Yv m r):=by
 unfold rU at h
 exact bC nB anF h (.br 56 (λ_=>.bd λqE Yf=>Ix kK 62 Yf <| .st none <| .bd λm_ ND=>iN (adM (d+1) ND) <| .bd λbX ML=>Cl [] Fo [] (yO (d+0) ML) <| E0 [1,3,4]) λ_=>E0 [1,3])
theorem aaR (d:Nat) {m:aM} {s12:List UInt8×Int} {r:(List UInt8)} (h:Fp m s12=some r):bN (eY (aV (aF aH (d+2)) KK 82 anE) [1,3,4] KK) 0 (jJ [1,3,4] (ze m s12)) (CK m r) :=
 cO (st:=ze m) (fin:=CK m) (step:=rU m) (λe=>by (intro h;cases h)) (λs x h=>aaQ d h) KK s12 r h
def KN (m:aM):Option (List UInt8) :=
 (qJ m).bind λ(x1:Bool)=>cond (!x1) (some []) ((UA m.dL).bind λ(x2:Int)=>(CJ [] ([m.Kind,m.From,m.To,m.dR,m.Epoch,m.Weight,m.Load,m.kT,x2])).bind λ(x3:List UInt8)=>(KL x3 m.Fa).bind λ(x4:List UInt8)=>(xB x4 m.Answer).bind λ(x5:List UInt8)=>(CJ x5 ([(m.Path.length:Int)])).bind λ(x6:List UInt8)=>(CJ x6 m.Path).bind λ(x7:List UInt8)=>(CJ x7 ([(m.Table.length:Int)])).bind λ(x8:List UInt8)=>(Fp m (x8,0)).bind λ(mE:(List UInt8))=>(D5 mE m.mZ).bind λ(jP:List UInt8)=>some jP)
def Ro (m:aM) (r:List UInt8):AV×WH:=((kS r),[])
theorem ahC (d:Nat) {m:aM} {r:List UInt8} (h:KN m=some r):Spec (aF aH (d+8)) 9 [(.agg (dh m))] [] (Ro m r).1 (Ro m r).2:=by
 unfold KN at h
 exact aZ nB AF9 h (.bd λx1 q1=>Cb [.agg [.undef,.undef,.undef,.undef,.undef,.undef,.undef,.undef,.undef,.undef,.undef,.undef,.undef,.undef,.undef,.undef,.undef,.slice none 1 0 0 true,.slice none 5 0 0 true,.undef,.undef,.slice none 2 0 0 true,.slice none 4 0 0 true]] (JH (d+0) q1) <| .br 8 (λ_=>Fn Fo [] none) λ_=>.bd λx2 q2=>iN (adM (d+6) q2) <| .bd λx3 q3=>Cl [] Fo [] (yO (d+5) q3) <| .bd λx4 q4=>Cl [] Fo [] (ahB (d+3) q4) <| .bd λx5 q5=>Cl [] Fo [] (OX (d+3) q5) <| .bd λx6 q6=>Cl [] Fo [] (yO (d+5) q6) <| .er <| .ob (rfl:@Eq (Option AV) (some (J9 m.Path)) (some (J9 m.Path))) <| .bd λx7 q7=>Cl [] Fo [] (yO (d+5) q7) <| .bd λx8 q8=>Cl [] Fo [] (yO (d+5) q8) <| .bd λmE q16=>Lp [none,none,none] [] [] (aaR (d+5) q16) <| .bd λjP Jm=>Cl [] Fo [.undef,.agg [.undef,.undef,.slice none 2 0 0 true,.slice none 4 0 0 true]] (acj (d+0) Jm) <| Fn Fo [] none)
def Bh (m:aM):Option (List Int) :=
 some [m.Kind,m.From,m.To,m.dR,m.Epoch,m.Weight,m.Load,m.kT]
def UE (m:aM) (r:List Int):AV×WH:=((J9 r),[])
theorem LV (d:Nat) {m:aM} {r:List Int} (h:Bh m=some r):Spec (aF aH (d+1)) 46 [(.agg (dh m))] [] (UE m r).1 (UE m r).2:=by
 unfold Bh at h
 exact aZ nB ayL h (Fn Fo [] none)
end Go.Proofs.YtohoggieaanllaaGreat
