import Derived.Test.YtohoggieaanllaaGreatXt
import Derived.Test.YtohoggieaanllaaGreatXs
import Derived.Test.YtohoggieaanllaaGreatY2
set_option linter.all false
set_option maxRecDepth 100000
namespace Go.Proofs.YtohoggieaanllaaGreat
abbrev Ta (dI:aX) (aR:bg) (hosts:Int) (x1:Int) (x2:Int) (x3:Int) (x4:Int) (x5:Int) (x6:Int) (x7:Int) (x8:Int) (x9:Int) (x10:List UInt8) (dN:List av):Fast×WH:=([(1,(.int .i64 hosts)),(2,(.ptr (some (0,0)))),(4,(.ptr (some (1,0)))),(5,(.ptr (some (2,0))))],[(some (.cells (dG aR) false false)),(some (.cells [(.int .i64 0),(.int .i64 0),(.int .i64 0),(.int .i64 0),(.int .i64 0),(.int .i64 0),(.int .i64 0),(.int .i64 0),(.bool false),(.int .i64 0),(.int .i64 0),(.int .i64 0),(.str ([]:List UInt8)),(.str ([]:List UInt8)),(.str ([]:List UInt8)),(.int .i64 0),(.str ([]:List UInt8)),(.slice none 1 0 0 true),(.slice none 5 0 0 true),(.int .i64 0),(.int .i64 0),(.slice none 2 0 0 true),(.slice none 4 0 0 true)] false false)),(some (.cells [(.int .i64 (IntKind.i64.wrap (1+x1))),(.int .i64 x2),(.int .i64 x3),(.int .i64 x4),(.int .i64 x5),(.int .i64 x6),(.int .i64 x7),(.int .i64 x8),(.bool aR.dw),(.int .i64 dI.Client),(.int .i64 dI.Seq),(.int .i64 dI.Op.Kind),(.str dI.Op.Key),(.str dI.Op.Value),(.str dI.Op.Old),(.int .i64 x9),(.str x10),(.slice none 1 0 0 true),(.acc 3 0 5 dN.length true),(.int .i64 0),(.int .i64 0),(.slice none 2 0 0 true),(.slice none 4 0 0 true)] false false)),(some (.cells (bn dN) false true))])
def Qu (dI:aX) (aR:bg) (hosts:Int) (x1:Int) (x2:Int) (x3:Int) (x4:Int) (x5:Int) (x6:Int) (x7:Int) (x8:Int) (x9:Int) (x10:List UInt8) (dN:List av):(Int×Int×Int×List UInt8×List UInt8×List UInt8)→Ex×Fast×WH:=λe=>(.normal,[(1,(.int .i64 hosts)),(2,(.ptr (some (0,0)))),(4,(.ptr (some (1,0)))),(5,(.ptr (some (2,0))))],[(some (.cells (dG aR) false false)),(some (.cells [(.int .i64 0),(.int .i64 0),(.int .i64 0),(.int .i64 0),(.int .i64 0),(.int .i64 0),(.int .i64 0),(.int .i64 0),(.bool false),(.int .i64 0),(.int .i64 0),(.int .i64 0),(.str ([]:List UInt8)),(.str ([]:List UInt8)),(.str ([]:List UInt8)),(.int .i64 0),(.str ([]:List UInt8)),(.slice none 1 0 0 true),(.slice none 5 0 0 true),(.int .i64 0),(.int .i64 0),(.slice none 2 0 0 true),(.slice none 4 0 0 true)] false false)),(some (.cells [(.int .i64 (IntKind.i64.wrap (1+x1))),(.int .i64 x2),(.int .i64 x3),(.int .i64 x4),(.int .i64 x5),(.int .i64 x6),(.int .i64 x7),(.int .i64 x8),(.bool aR.dw),(.int .i64 e.1),(.int .i64 e.2.1),(.int .i64 e.2.2.1),(.str e.2.2.2.1),(.str e.2.2.2.2.1),(.str e.2.2.2.2.2),(.int .i64 x9),(.str x10),(.slice none 1 0 0 true),(.acc 3 0 5 dN.length true),(.int .i64 0),(.int .i64 0),(.slice none 2 0 0 true),(.slice none 4 0 0 true)] false false)),(some (.cells (bn dN) false true))])
def IU (dI:aX) (aR:bg) (hosts:Int) (x1:Int) (x2:Int) (x3:Int) (x4:Int) (x5:Int) (x6:Int) (x7:Int) (x8:Int) (x9:Int) (x10:List UInt8) (dN:List av):Option ((Int×Int×Int×List UInt8×List UInt8×List UInt8)) :=
 (AQ dI).bind λ(rG:Bool)=>cond (!rG) ((bf aR.pE 5).bind λ(kR:Int)=>cond (decide (kR < 4)) (some (0,0,0,([]:List UInt8),([]:List UInt8),([]:List UInt8))) (some (dI.Client,dI.Seq,dI.Op.Kind,dI.Op.Key,dI.Op.Value,dI.Op.Old))) (some (dI.Client,dI.Seq,dI.Op.Kind,dI.Op.Key,dI.Op.Value,dI.Op.Old))
theorem UD (d:Nat) {dI:aX} {aR:bg} {hosts:Int} {x1:Int} {x2:Int} {x3:Int} {x4:Int} {x5:Int} {x6:Int} {x7:Int} {x8:Int} {x9:Int} {x10:List UInt8} {dN:List av} {r:(Int×Int×Int×List UInt8×List UInt8×List UInt8)} (h:IU dI aR hosts x1 x2 x3 x4 x5 x6 x7 x8 x9 x10 dN=some r):bX (aU (aG aH (d+3)) KK 154 R7) 0 (Ta dI aR hosts x1 x2 x3 x4 x5 x6 x7 x8 x9 x10 dN) (Qu dI aR hosts x1 x2 x3 x4 x5 x6 x7 x8 x9 x10 dN r):=by
 unfold IU at h
 exact bE nB PD h (.bd λrG Uv=>iF (PU (d+0) Uv) <| .br 55 (λ_=>.bd λkR NJ=>iF (bA (d+2) NJ) <| .br 60 (λ_=>.st none <| E0 [1,2,4,5]) λ_=>E0 [1,2,4,5]) λ_=>E0 [1,2,4,5])
abbrev Td (qB:Int×List Int) (aR:bg) (hosts:Int) (x1:Int) (x2:Int) (x3:Int) (x4:Int) (x5:Int) (x6:Int) (x7:Int) (x8:Int) (bR:(Int×Int×Int×List UInt8×List UInt8×List UInt8)) (x9:Int) (x10:List UInt8) (dN:List av):Fast×WH:=([(1,(.int .i64 hosts)),(2,(.ptr (some (0,0)))),(4,(.ptr (some (1,0)))),(5,(.ptr (some (2,0)))),(6,(.int .i64 qB.1))],[(some (.cells (dG aR) false false)),(some (.cells [(.int .i64 0),(.int .i64 0),(.int .i64 0),(.int .i64 0),(.int .i64 0),(.int .i64 0),(.int .i64 0),(.int .i64 0),(.bool false),(.int .i64 0),(.int .i64 0),(.int .i64 0),(.str ([]:List UInt8)),(.str ([]:List UInt8)),(.str ([]:List UInt8)),(.int .i64 0),(.str ([]:List UInt8)),(.acc 3 0 1 0 true),(.acc 4 0 5 0 true),(.int .i64 0),(.int .i64 0),(.acc 5 0 2 0 true),(.acc 6 0 4 0 true)] false false)),(some (.cells [(.int .i64 (IntKind.i64.wrap (1+x1))),(.int .i64 x2),(.int .i64 x3),(.int .i64 x4),(.int .i64 x5),(.int .i64 x6),(.int .i64 x7),(.int .i64 x8),(.bool aR.dw),(.int .i64 bR.1),(.int .i64 bR.2.1),(.int .i64 bR.2.2.1),(.str bR.2.2.2.1),(.str bR.2.2.2.2.1),(.str bR.2.2.2.2.2),(.int .i64 x9),(.str x10),(.acc 7 0 1 qB.2.length true),(.acc 8 0 5 dN.length true),(.int .i64 0),(.int .i64 0),(.acc 9 0 2 0 true),(.acc 10 0 4 0 true)] false false)),(some (.cells (yB []) false true)),(some (.cells (bn []) false true)),(some (.cells (aB []) false true)),(some (.cells (aI []) false true)),(some (.cells (yB qB.2) false true)),(some (.cells (bn dN) false true)),(some (.cells (aB []) false true)),(some (.cells (aI []) false true))])
def Qv (qB:Int×List Int) (aR:bg) (hosts:Int) (x1:Int) (x2:Int) (x3:Int) (x4:Int) (x5:Int) (x6:Int) (x7:Int) (x8:Int) (bR:(Int×Int×Int×List UInt8×List UInt8×List UInt8)) (x9:Int) (x10:List UInt8) (dN:List av):Unit⊕Unit→Ex×Fast×WH:=fun
 | .inl e=>(.normal,[(1,(.int .i64 hosts)),(2,(.ptr (some (0,0)))),(4,(.ptr (some (1,0)))),(5,(.ptr (some (2,0)))),(6,(.int .i64 qB.1))],[(some (.cells (dG aR) false false)),(some (.cells [(.int .i64 0),(.int .i64 0),(.int .i64 0),(.int .i64 0),(.int .i64 0),(.int .i64 0),(.int .i64 0),(.int .i64 0),(.bool false),(.int .i64 0),(.int .i64 0),(.int .i64 0),(.str ([]:List UInt8)),(.str ([]:List UInt8)),(.str ([]:List UInt8)),(.int .i64 0),(.str ([]:List UInt8)),(.acc 3 0 1 0 true),(.acc 4 0 5 0 true),(.int .i64 0),(.int .i64 0),(.acc 5 0 2 0 true),(.acc 6 0 4 0 true)] false false)),(some (.cells [(.int .i64 (IntKind.i64.wrap (1+x1))),(.int .i64 x2),(.int .i64 x3),(.int .i64 x4),(.int .i64 x5),(.int .i64 x6),(.int .i64 x7),(.int .i64 x8),(.bool aR.dw),(.int .i64 bR.1),(.int .i64 bR.2.1),(.int .i64 bR.2.2.1),(.str bR.2.2.2.1),(.str bR.2.2.2.2.1),(.str bR.2.2.2.2.2),(.int .i64 x9),(.str x10),(.acc 7 0 1 qB.2.length true),(.acc 8 0 5 dN.length true),(.int .i64 0),(.int .i64 0),(.acc 9 0 2 0 true),(.acc 10 0 4 0 true)] false false)),(some (.cells (yB []) false true)),(some (.cells (bn []) false true)),(some (.cells (aB []) false true)),(some (.cells (aI []) false true)),(some (.cells (yB qB.2) false true)),(some (.cells (bn dN) false true)),(some (.cells (aB []) false true)),(some (.cells (aI []) false true))])
 | .inr e=>((.exit 0),[(2,(.ptr (some (0,0)))),(4,(.ptr (some (1,0)))),(5,(.ptr (some (2,0))))],[(some (.cells (dG aR) false false)),(some (.cells [(.int .i64 0),(.int .i64 0),(.int .i64 0),(.int .i64 0),(.int .i64 0),(.int .i64 0),(.int .i64 0),(.int .i64 0),(.bool false),(.int .i64 0),(.int .i64 0),(.int .i64 0),(.str ([]:List UInt8)),(.str ([]:List UInt8)),(.str ([]:List UInt8)),(.int .i64 0),(.str ([]:List UInt8)),(.acc 3 0 1 0 true),(.acc 4 0 5 0 true),(.int .i64 0),(.int .i64 0),(.acc 5 0 2 0 true),(.acc 6 0 4 0 true)] false false)),(some (.cells [(.int .i64 (IntKind.i64.wrap (1+x1))),(.int .i64 x2),(.int .i64 x3),(.int .i64 x4),(.int .i64 x5),(.int .i64 x6),(.int .i64 x7),(.int .i64 x8),(.bool aR.dw),(.int .i64 bR.1),(.int .i64 bR.2.1),(.int .i64 bR.2.2.1),(.str bR.2.2.2.1),(.str bR.2.2.2.2.1),(.str bR.2.2.2.2.2),(.int .i64 x9),(.str x10),(.acc 7 0 1 qB.2.length true),(.acc 8 0 5 dN.length true),(.int .i64 0),(.int .i64 0),(.acc 9 0 2 0 true),(.acc 10 0 4 0 true)] false false)),(some (.cells (yB []) false true)),(some (.cells (bn []) false true)),(some (.cells (aB []) false true)),(some (.cells (aI []) false true)),(some (.cells (yB qB.2) false true)),(some (.cells (bn dN) false true)),(some (.cells (aB []) false true)),(some (.cells (aI []) false true))])
def IV (qB:Int×List Int) (aR:bg) (hosts:Int) (x1:Int) (x2:Int) (x3:Int) (x4:Int) (x5:Int) (x6:Int) (x7:Int) (x8:Int) (bR:(Int×Int×Int×List UInt8×List UInt8×List UInt8)) (x9:Int) (x10:List UInt8) (dN:List av):Option (Unit⊕Unit) :=
 cond (decide (qB.1 < (aR.Path.length:Int))) (cond (decide (qB.1 < 5)) (some (.inl ())) (some (.inr ()))) (some (.inr ()))
theorem KH (d:Nat) {qB:Int×List Int} {aR:bg} {hosts:Int} {x1:Int} {x2:Int} {x3:Int} {x4:Int} {x5:Int} {x6:Int} {x7:Int} {x8:Int} {bR:(Int×Int×Int×List UInt8×List UInt8×List UInt8)} {x9:Int} {x10:List UInt8} {dN:List av} {r:Unit⊕Unit} (h:IV qB aR hosts x1 x2 x3 x4 x5 x6 x7 x8 bR x9 x10 dN=some r):bX (aU (aG aH (d+0)) KK 154 Dt) 0 (Td qB aR hosts x1 x2 x3 x4 x5 x6 x7 x8 bR x9 x10 dN) (Qv qB aR hosts x1 x2 x3 x4 x5 x6 x7 x8 bR x9 x10 dN r):=by
 unfold IV at h
 exact bE nB Es h (.br 68 (λ_=>.br 71 (λ_=>E0 [1,2,4,5,6]) λ_=>E0 [2,4,5]) λ_=>E0 [2,4,5])
def wS (aR:bg) (hosts:Int) (x1:Int) (x2:Int) (x3:Int) (x4:Int) (x5:Int) (x6:Int) (x7:Int) (x8:Int) (bR:(Int×Int×Int×List UInt8×List UInt8×List UInt8)) (x9:Int) (x10:List UInt8) (dN:List av) (qB:Int×List Int):List AV×WH:=([(.int .i64 hosts),(.ptr (some (0,0))),(.ptr (some (1,0))),(.ptr (some (2,0))),(.int .i64 qB.1)],[(some (.cells (dG aR) false false)),(some (.cells [(.int .i64 0),(.int .i64 0),(.int .i64 0),(.int .i64 0),(.int .i64 0),(.int .i64 0),(.int .i64 0),(.int .i64 0),(.bool false),(.int .i64 0),(.int .i64 0),(.int .i64 0),(.str ([]:List UInt8)),(.str ([]:List UInt8)),(.str ([]:List UInt8)),(.int .i64 0),(.str ([]:List UInt8)),(.acc 3 0 1 0 true),(.acc 4 0 5 0 true),(.int .i64 0),(.int .i64 0),(.acc 5 0 2 0 true),(.acc 6 0 4 0 true)] false false)),(some (.cells [(.int .i64 (IntKind.i64.wrap (1+x1))),(.int .i64 x2),(.int .i64 x3),(.int .i64 x4),(.int .i64 x5),(.int .i64 x6),(.int .i64 x7),(.int .i64 x8),(.bool aR.dw),(.int .i64 bR.1),(.int .i64 bR.2.1),(.int .i64 bR.2.2.1),(.str bR.2.2.2.1),(.str bR.2.2.2.2.1),(.str bR.2.2.2.2.2),(.int .i64 x9),(.str x10),(.acc 7 0 1 qB.2.length true),(.acc 8 0 5 dN.length true),(.int .i64 0),(.int .i64 0),(.acc 9 0 2 0 true),(.acc 10 0 4 0 true)] false false)),(some (.cells (yB []) false true)),(some (.cells (bn []) false true)),(some (.cells (aB []) false true)),(some (.cells (aI []) false true)),(some (.cells (yB qB.2) false true)),(some (.cells (bn dN) false true)),(some (.cells (aB []) false true)),(some (.cells (aI []) false true))])
def zQ (aR:bg) (hosts:Int) (x1:Int) (x2:Int) (x3:Int) (x4:Int) (x5:Int) (x6:Int) (x7:Int) (x8:Int) (bR:(Int×Int×Int×List UInt8×List UInt8×List UInt8)) (x9:Int) (x10:List UInt8) (dN:List av):(List Int)→Ex×Fast×WH:=λe=>((.exit 0),[(2,(.ptr (some (0,0)))),(4,(.ptr (some (1,0)))),(5,(.ptr (some (2,0))))],[(some (.cells (dG aR) false false)),(some (.cells [(.int .i64 0),(.int .i64 0),(.int .i64 0),(.int .i64 0),(.int .i64 0),(.int .i64 0),(.int .i64 0),(.int .i64 0),(.bool false),(.int .i64 0),(.int .i64 0),(.int .i64 0),(.str ([]:List UInt8)),(.str ([]:List UInt8)),(.str ([]:List UInt8)),(.int .i64 0),(.str ([]:List UInt8)),(.acc 3 0 1 0 true),(.acc 4 0 5 0 true),(.int .i64 0),(.int .i64 0),(.acc 5 0 2 0 true),(.acc 6 0 4 0 true)] false false)),(some (.cells [(.int .i64 (IntKind.i64.wrap (1+x1))),(.int .i64 x2),(.int .i64 x3),(.int .i64 x4),(.int .i64 x5),(.int .i64 x6),(.int .i64 x7),(.int .i64 x8),(.bool aR.dw),(.int .i64 bR.1),(.int .i64 bR.2.1),(.int .i64 bR.2.2.1),(.str bR.2.2.2.1),(.str bR.2.2.2.2.1),(.str bR.2.2.2.2.2),(.int .i64 x9),(.str x10),(.acc 7 0 1 e.length true),(.acc 8 0 5 dN.length true),(.int .i64 0),(.int .i64 0),(.acc 9 0 2 0 true),(.acc 10 0 4 0 true)] false false)),(some (.cells (yB []) false true)),(some (.cells (bn []) false true)),(some (.cells (aB []) false true)),(some (.cells (aI []) false true)),(some (.cells (yB e) false true)),(some (.cells (bn dN) false true)),(some (.cells (aB []) false true)),(some (.cells (aI []) false true))])
abbrev Te (aR:bg) (hosts:Int) (x1:Int) (x2:Int) (x3:Int) (x4:Int) (x5:Int) (x6:Int) (x7:Int) (x8:Int) (bR:(Int×Int×Int×List UInt8×List UInt8×List UInt8)) (x9:Int) (x10:List UInt8) (dN:List av):=eY [1,2,4,5,6] (wS aR hosts x1 x2 x3 x4 x5 x6 x7 x8 bR x9 x10 dN) (zQ aR hosts x1 x2 x3 x4 x5 x6 x7 x8 bR x9 x10 dN)
def yS (aR:bg) (hosts:Int) (x1:Int) (x2:Int) (x3:Int) (x4:Int) (x5:Int) (x6:Int) (x7:Int) (x8:Int) (bR:(Int×Int×Int×List UInt8×List UInt8×List UInt8)) (x9:Int) (x10:List UInt8) (dN:List av) (qB:Int×List Int):Option ((Int×List Int)⊕((List Int))) :=
 (IV qB aR hosts x1 x2 x3 x4 x5 x6 x7 x8 bR x9 x10 dN).bind λ(x27:Unit⊕Unit)=>cond (mW x27) ((bW aR.Path qB.1).bind λ(x29:Int)=>(bf x29 hosts).bind λ(x30:Int)=>gd (dB 8 (qB.2++[x30]).length) (some (.inl ((IntKind.i64.wrap (qB.1+1)),(qB.2++[x30]))))) (some (.inr qB.2))
def PX (aR:bg) (hosts:Int) (x1:Int) (x2:Int) (x3:Int) (x4:Int) (x5:Int) (x6:Int) (x7:Int) (x8:Int) (bR:(Int×Int×Int×List UInt8×List UInt8×List UInt8)) (x9:Int) (x10:List UInt8) (dN:List av) (qB:Int×List Int):Option ((List Int)):=eG (yS aR hosts x1 x2 x3 x4 x5 x6 x7 x8 bR x9 x10 dN) KK qB
theorem UE (d:Nat) {aR:bg} {hosts:Int} {x1:Int} {x2:Int} {x3:Int} {x4:Int} {x5:Int} {x6:Int} {x7:Int} {x8:Int} {bR:(Int×Int×Int×List UInt8×List UInt8×List UInt8)} {x9:Int} {x10:List UInt8} {dN:List av} {qB:Int×List Int} {r:(Int×List Int)⊕((List Int))} (h:yS aR hosts x1 x2 x3 x4 x5 x6 x7 x8 bR x9 x10 dN qB=some r):bX (aU (aG aH (d+1)) KK 154 YH) 0 (mQ [1,2,4,5,6] (wS aR hosts x1 x2 x3 x4 x5 x6 x7 x8 bR x9 x10 dN qB)) (Te aR hosts x1 x2 x3 x4 x5 x6 x7 x8 bR x9 x10 dN r):=by
 unfold yS at h
 exact bE nB YI h (.bd λx27 q27=>.ite (λabw=>Jn [1,2,4,5,6] [none,none,none,none,none] [] [] (nA (il abw) (KH (d+1) q27)) <| .bd λx29 q29=>Ix Fe 79 q29 <| .bd λx30 q30=>iF (bA (d+0) q30) <| .gd λq31=>Ap Fe 84 q31 <| .st none <| E0 [1,2,4,5,6]) λabw=>Jn [1,2,4,5,6] [none,none,none,none,none] [] [] (nA (D_ abw) (KH (d+1) q27)) <| E0 [2,4,5])
theorem UF (d:Nat) {aR:bg} {hosts:Int} {x1:Int} {x2:Int} {x3:Int} {x4:Int} {x5:Int} {x6:Int} {x7:Int} {x8:Int} {bR:(Int×Int×Int×List UInt8×List UInt8×List UInt8)} {x9:Int} {x10:List UInt8} {dN:List av} {qB:Int×List Int} {r:(List Int)} (h:PX aR hosts x1 x2 x3 x4 x5 x6 x7 x8 bR x9 x10 dN qB=some r):bX (gq (aU (aG aH (d+1)) KK 154 YH) [1,2,4,5,6] KK) 0 (mQ [1,2,4,5,6] (wS aR hosts x1 x2 x3 x4 x5 x6 x7 x8 bR x9 x10 dN qB)) (zQ aR hosts x1 x2 x3 x4 x5 x6 x7 x8 bR x9 x10 dN r) :=
 dL (st:=wS aR hosts x1 x2 x3 x4 x5 x6 x7 x8 bR x9 x10 dN) (fin:=zQ aR hosts x1 x2 x3 x4 x5 x6 x7 x8 bR x9 x10 dN) (step:=yS aR hosts x1 x2 x3 x4 x5 x6 x7 x8 bR x9 x10 dN) (λe=>by (intro h;cases h)) (λs x h=>UE d h) KK qB r h
abbrev Tf (x1:Int) (aR:bg) (x2:Int) (x3:Int) (x4:Int) (x5:Int) (x6:Int) (x7:Int) (x8:Int) (bR:(Int×Int×Int×List UInt8×List UInt8×List UInt8)) (x9:Int) (x10:List UInt8) (x32:(List Int)) (dN:List av):Fast×WH:=([(2,(.ptr (some (0,0)))),(4,(.ptr (some (1,0)))),(5,(.ptr (some (2,0))))],[(some (.cells (dG aR) false false)),(some (.cells [(.int .i64 0),(.int .i64 0),(.int .i64 0),(.int .i64 0),(.int .i64 0),(.int .i64 0),(.int .i64 0),(.int .i64 0),(.bool false),(.int .i64 0),(.int .i64 0),(.int .i64 0),(.str ([]:List UInt8)),(.str ([]:List UInt8)),(.str ([]:List UInt8)),(.int .i64 0),(.str ([]:List UInt8)),(.acc 3 0 1 0 true),(.acc 4 0 5 0 true),(.int .i64 0),(.int .i64 0),(.acc 5 0 2 0 true),(.acc 6 0 4 0 true)] false false)),(some (.cells [(.int .i64 (IntKind.i64.wrap (1+x1))),(.int .i64 x2),(.int .i64 x3),(.int .i64 x4),(.int .i64 x5),(.int .i64 x6),(.int .i64 x7),(.int .i64 x8),(.bool aR.dw),(.int .i64 bR.1),(.int .i64 bR.2.1),(.int .i64 bR.2.2.1),(.str bR.2.2.2.1),(.str bR.2.2.2.2.1),(.str bR.2.2.2.2.2),(.int .i64 x9),(.str x10),(.acc 7 0 1 x32.length true),(.acc 8 0 5 dN.length true),(.int .i64 0),(.int .i64 0),(.acc 9 0 2 0 true),(.acc 10 0 4 0 true)] false false)),(some (.cells (yB []) false true)),(some (.cells (bn []) false true)),(some (.cells (aB []) false true)),(some (.cells (aI []) false true)),(some (.cells (yB x32) false true)),(some (.cells (bn dN) false true)),(some (.cells (aB []) false true)),(some (.cells (aI []) false true))])
def Qw (x1:Int) (aR:bg) (x2:Int) (x3:Int) (x4:Int) (x5:Int) (x6:Int) (x7:Int) (x8:Int) (bR:(Int×Int×Int×List UInt8×List UInt8×List UInt8)) (x9:Int) (x10:List UInt8) (x32:(List Int)) (dN:List av):Bool→Ex×Fast×WH:=λe=>(.normal,[(2,(.ptr (some (0,0)))),(4,(.ptr (some (1,0)))),(5,(.ptr (some (2,0)))),(94,(.bool e))],[(some (.cells (dG aR) false false)),(some (.cells [(.int .i64 0),(.int .i64 0),(.int .i64 0),(.int .i64 0),(.int .i64 0),(.int .i64 0),(.int .i64 0),(.int .i64 0),(.bool false),(.int .i64 0),(.int .i64 0),(.int .i64 0),(.str ([]:List UInt8)),(.str ([]:List UInt8)),(.str ([]:List UInt8)),(.int .i64 0),(.str ([]:List UInt8)),(.acc 3 0 1 0 true),(.acc 4 0 5 0 true),(.int .i64 0),(.int .i64 0),(.acc 5 0 2 0 true),(.acc 6 0 4 0 true)] false false)),(some (.cells [(.int .i64 (IntKind.i64.wrap (1+x1))),(.int .i64 x2),(.int .i64 x3),(.int .i64 x4),(.int .i64 x5),(.int .i64 x6),(.int .i64 x7),(.int .i64 x8),(.bool aR.dw),(.int .i64 bR.1),(.int .i64 bR.2.1),(.int .i64 bR.2.2.1),(.str bR.2.2.2.1),(.str bR.2.2.2.2.1),(.str bR.2.2.2.2.2),(.int .i64 x9),(.str x10),(.acc 7 0 1 x32.length true),(.acc 8 0 5 dN.length true),(.int .i64 0),(.int .i64 0),(.acc 9 0 2 0 true),(.acc 10 0 4 0 true)] false false)),(some (.cells (yB []) false true)),(some (.cells (bn []) false true)),(some (.cells (aB []) false true)),(some (.cells (aI []) false true)),(some (.cells (yB x32) false true)),(some (.cells (bn dN) false true)),(some (.cells (aB []) false true)),(some (.cells (aI []) false true))])
def IW (x1:Int) (aR:bg) (x2:Int) (x3:Int) (x4:Int) (x5:Int) (x6:Int) (x7:Int) (x8:Int) (bR:(Int×Int×Int×List UInt8×List UInt8×List UInt8)) (x9:Int) (x10:List UInt8) (x32:(List Int)) (dN:List av):Option (Bool) :=
 cond ((IntKind.i64.wrap (1+x1))==6) (some true) ((bf aR.pE 4).bind λ(x33:Int)=>some (x33==1))
theorem UG (d:Nat) {x1:Int} {aR:bg} {x2:Int} {x3:Int} {x4:Int} {x5:Int} {x6:Int} {x7:Int} {x8:Int} {bR:(Int×Int×Int×List UInt8×List UInt8×List UInt8)} {x9:Int} {x10:List UInt8} {x32:(List Int)} {dN:List av} {r:Bool} (h:IW x1 aR x2 x3 x4 x5 x6 x7 x8 bR x9 x10 x32 dN=some r):bX (aU (aG aH (d+1)) KK 154 Ic) 0 (Tf x1 aR x2 x3 x4 x5 x6 x7 x8 bR x9 x10 x32 dN) (Qw x1 aR x2 x3 x4 x5 x6 x7 x8 bR x9 x10 x32 dN r):=by
 unfold IW at h
 exact bE nB Ie h (.br 89 (λ_=>E0 [2,4,5,94]) λ_=>.bd λx33 q33=>iF (bA (d+0) q33) <| E0 [2,4,5,94])
abbrev Tg (x1:Int) (aR:bg) (x2:Int) (x3:Int) (x4:Int) (x5:Int) (x6:Int) (x7:Int) (x8:Int) (bR:(Int×Int×Int×List UInt8×List UInt8×List UInt8)) (x9:Int) (x10:List UInt8) (x32:(List Int)) (dN:List av):Fast×WH:=([(2,(.ptr (some (0,0)))),(4,(.ptr (some (1,0)))),(5,(.ptr (some (2,0))))],[(some (.cells (dG aR) false false)),(some (.cells [(.int .i64 0),(.int .i64 0),(.int .i64 0),(.int .i64 0),(.int .i64 0),(.int .i64 0),(.int .i64 0),(.int .i64 0),(.bool false),(.int .i64 0),(.int .i64 0),(.int .i64 0),(.str ([]:List UInt8)),(.str ([]:List UInt8)),(.str ([]:List UInt8)),(.int .i64 0),(.str ([]:List UInt8)),(.acc 3 0 1 0 true),(.acc 4 0 5 0 true),(.int .i64 0),(.int .i64 0),(.acc 5 0 2 0 true),(.acc 6 0 4 0 true)] false false)),(some (.cells [(.int .i64 (IntKind.i64.wrap (1+x1))),(.int .i64 x2),(.int .i64 x3),(.int .i64 x4),(.int .i64 x5),(.int .i64 x6),(.int .i64 x7),(.int .i64 x8),(.bool aR.dw),(.int .i64 bR.1),(.int .i64 bR.2.1),(.int .i64 bR.2.2.1),(.str bR.2.2.2.1),(.str bR.2.2.2.2.1),(.str bR.2.2.2.2.2),(.int .i64 x9),(.str x10),(.acc 7 0 1 x32.length true),(.acc 8 0 5 dN.length true),(.int .i64 0),(.int .i64 0),(.acc 9 0 2 0 true),(.acc 10 0 4 0 true)] false false)),(some (.cells (yB []) false true)),(some (.cells (bn []) false true)),(some (.cells (aB []) false true)),(some (.cells (aI []) false true)),(some (.cells (yB x32) false true)),(some (.cells (bn dN) false true)),(some (.cells (aB []) false true)),(some (.cells (aI []) false true))])
def Qx (x1:Int) (aR:bg) (x2:Int) (x3:Int) (x4:Int) (x5:Int) (x6:Int) (x7:Int) (x8:Int) (bR:(Int×Int×Int×List UInt8×List UInt8×List UInt8)) (x9:Int) (x10:List UInt8) (x32:(List Int)) (dN:List av):(Int×Int×List au×List ak)→Ex×Fast×WH:=λe=>(.normal,[(2,(.ptr (some (0,0)))),(4,(.ptr (some (1,0)))),(5,(.ptr (some (2,0))))],[(some (.cells (dG aR) false false)),(some (.cells [(.int .i64 0),(.int .i64 0),(.int .i64 0),(.int .i64 0),(.int .i64 0),(.int .i64 0),(.int .i64 0),(.int .i64 0),(.bool false),(.int .i64 0),(.int .i64 0),(.int .i64 0),(.str ([]:List UInt8)),(.str ([]:List UInt8)),(.str ([]:List UInt8)),(.int .i64 0),(.str ([]:List UInt8)),(.acc 3 0 1 0 true),(.acc 4 0 5 0 true),(.int .i64 0),(.int .i64 0),(.acc 5 0 2 0 true),(.acc 6 0 4 0 true)] false false)),(some (.cells [(.int .i64 (IntKind.i64.wrap (1+x1))),(.int .i64 x2),(.int .i64 x3),(.int .i64 x4),(.int .i64 x5),(.int .i64 x6),(.int .i64 x7),(.int .i64 x8),(.bool aR.dw),(.int .i64 bR.1),(.int .i64 bR.2.1),(.int .i64 bR.2.2.1),(.str bR.2.2.2.1),(.str bR.2.2.2.2.1),(.str bR.2.2.2.2.2),(.int .i64 x9),(.str x10),(.acc 7 0 1 x32.length true),(.acc 8 0 5 dN.length true),(.int .i64 e.1),(.int .i64 e.2.1),(.acc 9 0 2 e.2.2.1.length true),(.acc 10 0 4 e.2.2.2.length true)] false false)),(some (.cells (yB []) false true)),(some (.cells (bn []) false true)),(some (.cells (aB []) false true)),(some (.cells (aI []) false true)),(some (.cells (yB x32) false true)),(some (.cells (bn dN) false true)),(some (.cells (aB e.2.2.1) false true)),(some (.cells (aI e.2.2.2) false true))])
def IX (x1:Int) (aR:bg) (x2:Int) (x3:Int) (x4:Int) (x5:Int) (x6:Int) (x7:Int) (x8:Int) (bR:(Int×Int×Int×List UInt8×List UInt8×List UInt8)) (x9:Int) (x10:List UInt8) (x32:(List Int)) (dN:List av):Option ((Int×Int×List au×List ak)) :=
 (IW x1 aR x2 x3 x4 x5 x6 x7 x8 bR x9 x10 x32 dN).bind λ(x34:Bool)=>cond x34 ((oF aR.fB aR.Epoch aR.Ops 0).bind λ(x35:Int×Int×List au×List ak)=>some (x35.1,x35.2.1,x35.2.2.1,x35.2.2.2)) (some (0,0,[],[]))
theorem UH (d:Nat) {x1:Int} {aR:bg} {x2:Int} {x3:Int} {x4:Int} {x5:Int} {x6:Int} {x7:Int} {x8:Int} {bR:(Int×Int×Int×List UInt8×List UInt8×List UInt8)} {x9:Int} {x10:List UInt8} {x32:(List Int)} {dN:List av} {r:(Int×Int×List au×List ak)} (h:IX x1 aR x2 x3 x4 x5 x6 x7 x8 bR x9 x10 x32 dN=some r):bX (aU (aG aH (d+5)) KK 154 Lg) 0 (Tg x1 aR x2 x3 x4 x5 x6 x7 x8 bR x9 x10 x32 dN) (Qx x1 aR x2 x3 x4 x5 x6 x7 x8 bR x9 x10 x32 dN r):=by
 unfold IX at h
 exact bE nB Kw h (.bd λx34 q34=>Jn [2,4,5] [none,none,none] [] [] (UG (d+4) q34) <| .br 94 (λ_=>.bd λx35 q35=>Cl [Fo,Fo,Fo,Fo] none [.undef,.undef,.slice none 8 0 0 true] (FQ (d+0) q35) <| .st none <| E0 [2,4,5]) λ_=>E0 [2,4,5])
def Bz (aR:bg) (hosts:Int):Option (Int×Int×Int×Int×Int×Int×Int×Int×Bool×Int×Int×Int×List UInt8×List UInt8×List UInt8×Int×List UInt8×Int×Int×List Int×List av×List au×List ak) :=
 (bf aR.Kind 10).bind λ(x1:Int)=>(bf aR.From hosts).bind λ(x2:Int)=>(bf aR.To hosts).bind λ(x3:Int)=>(bf aR.fB 6).bind λ(x4:Int)=>(bf aR.Epoch 6).bind λ(x5:Int)=>(bf aR.Weight 9).bind λ(x6:Int)=>(bf aR.Load 20).bind λ(x7:Int)=>(bf aR.m_ 4).bind λ(x8:Int)=>(bf aR.Why 12).bind λ(x9:Int)=>(ug aR.Why).bind λ(x10:List UInt8)=>(Lr aR.Table 5).bind λ(dN:List av)=>(Dv aR.Op).bind λ(dI:aX)=>(IU dI aR hosts x1 x2 x3 x4 x5 x6 x7 x8 x9 x10 dN).bind λ(bR:(Int×Int×Int×List UInt8×List UInt8×List UInt8))=>(PX aR hosts x1 x2 x3 x4 x5 x6 x7 x8 bR x9 x10 dN (0,[])).bind λ(x32:(List Int))=>(IX x1 aR x2 x3 x4 x5 x6 x7 x8 bR x9 x10 x32 dN).bind λ(yR:(Int×Int×List au×List ak))=>(bf aR.pE 22).bind λ(SY:Int)=>cond (SY==16) ((wD aR.m_).bind λ(x38:Int)=>some ((IntKind.i64.wrap (1+x1)),x2,x3,x4,x5,x6,x7,x38,aR.dw,bR.1,bR.2.1,bR.2.2.1,bR.2.2.2.1,bR.2.2.2.2.1,bR.2.2.2.2.2,x9,x10,yR.1,yR.2.1,x32,dN,yR.2.2.1,yR.2.2.2)) (cond (SY==17) ((wD aR.From).bind λ(x39:Int)=>some ((IntKind.i64.wrap (1+x1)),x39,x3,x4,x5,x6,x7,x8,aR.dw,bR.1,bR.2.1,bR.2.2.1,bR.2.2.2.1,bR.2.2.2.2.1,bR.2.2.2.2.2,x9,x10,yR.1,yR.2.1,x32,dN,yR.2.2.1,yR.2.2.2)) (cond (SY==18) ((bf aR.Kind 14).bind λ(x40:Int)=>some ((IntKind.i64.wrap (x40 - 1)),x2,x3,x4,x5,x6,x7,x8,aR.dw,bR.1,bR.2.1,bR.2.2.1,bR.2.2.2.1,bR.2.2.2.2.1,bR.2.2.2.2.2,x9,x10,yR.1,yR.2.1,x32,dN,yR.2.2.1,yR.2.2.2)) (cond (SY==19) ((oF aR.fB aR.Epoch aR.Ops (IntKind.i64.wrap (Int.tdiv aR.pE 22))).bind λ(x41:Int×Int×List au×List ak)=>some ((IntKind.i64.wrap (1+x1)),x2,x3,x4,x5,x6,x7,x8,aR.dw,bR.1,bR.2.1,bR.2.2.1,bR.2.2.2.1,bR.2.2.2.2.1,bR.2.2.2.2.2,x9,x10,x41.1,x41.2.1,x32,dN,x41.2.2.1,x41.2.2.2)) (cond (SY==20) ((bf aR.Why 15).bind λ(x42:Int)=>some ((IntKind.i64.wrap (1+x1)),x2,x3,x4,x5,x6,x7,x8,aR.dw,bR.1,bR.2.1,bR.2.2.1,bR.2.2.2.1,bR.2.2.2.2.1,bR.2.2.2.2.2,(IntKind.i64.wrap (x42 - 2)),x10,yR.1,yR.2.1,x32,dN,yR.2.2.1,yR.2.2.2)) (cond (SY==21) (gd (dB 8 (x32++[1,2,3,4,5,6]).length) (some ((IntKind.i64.wrap (1+x1)),x2,x3,x4,x5,x6,x7,x8,aR.dw,bR.1,bR.2.1,bR.2.2.1,bR.2.2.2.1,bR.2.2.2.2.1,bR.2.2.2.2.2,x9,x10,yR.1,yR.2.1,(x32++[1,2,3,4,5,6]),dN,yR.2.2.1,yR.2.2.2))) (some ((IntKind.i64.wrap (1+x1)),x2,x3,x4,x5,x6,x7,x8,aR.dw,bR.1,bR.2.1,bR.2.2.1,bR.2.2.2.1,bR.2.2.2.2.1,bR.2.2.2.2.2,x9,x10,yR.1,yR.2.1,x32,dN,yR.2.2.1,yR.2.2.2)))))))
def M9 (aR:bg) (hosts:Int) (r:Int×Int×Int×Int×Int×Int×Int×Int×Bool×Int×Int×Int×List UInt8×List UInt8×List UInt8×Int×List UInt8×Int×Int×List Int×List av×List au×List ak):AV×WH:=((.agg [(.int .i64 r.1),(.int .i64 r.2.1),(.int .i64 r.2.2.1),(.int .i64 r.2.2.2.1),(.int .i64 r.2.2.2.2.1),(.int .i64 r.2.2.2.2.2.1),(.int .i64 r.2.2.2.2.2.2.1),(.int .i64 r.2.2.2.2.2.2.2.1),(.bool r.2.2.2.2.2.2.2.2.1),(.int .i64 r.2.2.2.2.2.2.2.2.2.1),(.int .i64 r.2.2.2.2.2.2.2.2.2.2.1),(.int .i64 r.2.2.2.2.2.2.2.2.2.2.2.1),(.str r.2.2.2.2.2.2.2.2.2.2.2.2.1),(.str r.2.2.2.2.2.2.2.2.2.2.2.2.2.1),(.str r.2.2.2.2.2.2.2.2.2.2.2.2.2.2.1),(.int .i64 r.2.2.2.2.2.2.2.2.2.2.2.2.2.2.2.1),(.str r.2.2.2.2.2.2.2.2.2.2.2.2.2.2.2.2.1),(.acc 0 0 1 r.2.2.2.2.2.2.2.2.2.2.2.2.2.2.2.2.2.2.2.1.length true),(.acc 1 0 5 r.2.2.2.2.2.2.2.2.2.2.2.2.2.2.2.2.2.2.2.2.1.length true),(.int .i64 r.2.2.2.2.2.2.2.2.2.2.2.2.2.2.2.2.2.1),(.int .i64 r.2.2.2.2.2.2.2.2.2.2.2.2.2.2.2.2.2.2.1),(.acc 2 0 2 r.2.2.2.2.2.2.2.2.2.2.2.2.2.2.2.2.2.2.2.2.2.1.length true),(.acc 3 0 4 r.2.2.2.2.2.2.2.2.2.2.2.2.2.2.2.2.2.2.2.2.2.2.length true)]),[(some (.cells (yB r.2.2.2.2.2.2.2.2.2.2.2.2.2.2.2.2.2.2.2.1) false true)),(some (.cells (bn r.2.2.2.2.2.2.2.2.2.2.2.2.2.2.2.2.2.2.2.2.1) false true)),(some (.cells (aB r.2.2.2.2.2.2.2.2.2.2.2.2.2.2.2.2.2.2.2.2.2.1) false true)),(some (.cells (aI r.2.2.2.2.2.2.2.2.2.2.2.2.2.2.2.2.2.2.2.2.2.2) false true))])
theorem abx (d:Nat) {aR:bg} {hosts:Int} {r:Int×Int×Int×Int×Int×Int×Int×Int×Bool×Int×Int×Int×List UInt8×List UInt8×List UInt8×Int×List UInt8×Int×Int×List Int×List av×List au×List ak} (h:Bz aR hosts=some r):Spec (aG aH (d+6)) 8 [(.agg (dG aR)),(.int .i64 hosts)] [] (M9 aR hosts r).1 (M9 aR hosts r).2:=by
 unfold Bz at h
 exact aW nB AF8 h (.z 4 [.undef,.undef,.undef,.undef,.undef,.undef,.undef,.undef,.undef,.undef,.undef,.undef,.undef,.undef,.undef,.undef,.undef,.slice none 1 0 0 true,.slice none 5 0 0 true,.undef,.undef,.slice none 2 0 0 true,.slice none 4 0 0 true] <| .bd λx1 q1=>iF (bA (d+4) q1) <| .bd λx2 q2=>iF (bA (d+4) q2) <| .bd λx3 q3=>iF (bA (d+4) q3) <| .bd λx4 q4=>iF (bA (d+4) q4) <| .bd λx5 q5=>iF (bA (d+4) q5) <| .bd λx6 q6=>iF (bA (d+4) q6) <| .bd λx7 q7=>iF (bA (d+4) q7) <| .bd λx8 q8=>iF (bA (d+4) q8) <| .bd λx9 q9=>iF (bA (d+4) q9) <| .bd λx10 Pz=>iF (FL (d+3) Pz) <| .er <| .ob (rfl:@Eq (Option AV) (some (aV aR.Table)) (some (aV aR.Table))) <| .ob (rfl:@Eq (Option AV) (some (aV aR.Table)) (some (aV aR.Table))) <| .ob (rfl:@Eq (Option AV) (some (aV aR.Table)) (some (aV aR.Table))) <| .ob (rfl:@Eq (Option AV) (some (aV aR.Table)) (some (aV aR.Table))) <| .ob (rfl:@Eq (Option AV) (some (aV aR.Table)) (some (aV aR.Table))) <| .ob (rfl:@Eq (Option AV) (some (aV aR.Table)) (some (aV aR.Table))) <| .ob (rfl:@Eq (Option AV) (some (aV aR.Table)) (some (aV aR.Table))) <| .ob (rfl:@Eq (Option AV) (some (aV aR.Table)) (some (aV aR.Table))) <| .ob (rfl:@Eq (Option AV) (some (aV aR.Table)) (some (aV aR.Table))) <| .ob (rfl:@Eq (Option AV) (some (aV aR.Table)) (some (aV aR.Table))) <| .bd λdN KE=>Cl [Fo,Fo] none [.slice none 5 0 0 true] (XB (d+0) KE) <| .z 46 [.agg [.undef,.undef,.undef,.undef,.undef,.undef,.undef,.undef,.undef,.undef,.undef,.undef,.undef,.undef,.undef,.undef,.undef,.slice none 1 0 0 true,.slice none 5 0 0 true,.undef,.undef,.slice none 2 0 0 true,.slice none 4 0 0 true]] <| .z 5 [.undef,.undef,.undef,.undef,.undef,.undef,.undef,.undef,.undef,.undef,.undef,.undef,.undef,.undef,.undef,.undef,.undef,.slice none 1 0 0 true,.slice none 5 0 0 true,.undef,.undef,.slice none 2 0 0 true,.slice none 4 0 0 true] <| .st none <| .bd λdI Ii=>iF (MZ (d+1) Ii) <| .st none <| .bd λbR Rf=>Jn [1,2,4,5] [none,none,none,none] [] [] (UD (d+2) Rf) <| .bd λx32 q32=>Lp [none,none,none,none,none] [Tw,Tw,Tw,Tw,Tw,Tw,Tw,Tw,Tw,Tw,Tw] [] (UF (d+4) q32) <| .bd λyR q36=>Jn [2,4,5] [none,none,none] [] [] (UH (d+0) q36) <| .bd λSY q37=>iF (bA (d+4) q37) <| .br 106 (λ_=>.bd λx38 q38=>iF (uh (d+3) q38) <| .st none <| .st none <| Fn none [.agg [.undef,.undef,.undef,.undef,.undef,.undef,.undef,.undef,.undef,.undef,.undef,.undef,.undef,.undef,.undef,.undef,.undef,.slice none 1 0 0 true,.slice none 5 0 0 true,.undef,.undef,.slice none 2 0 0 true,.slice none 4 0 0 true]] none) λ_=>.br 112 (λ_=>.bd λx39 q39=>iF (uh (d+3) q39) <| .st none <| .st none <| Fn none [.agg [.undef,.undef,.undef,.undef,.undef,.undef,.undef,.undef,.undef,.undef,.undef,.undef,.undef,.undef,.undef,.undef,.undef,.slice none 1 0 0 true,.slice none 5 0 0 true,.undef,.undef,.slice none 2 0 0 true,.slice none 4 0 0 true]] none) λ_=>.br 118 (λ_=>.bd λx40 q40=>iF (bA (d+4) q40) <| .st none <| .st none <| Fn none [.agg [.undef,.undef,.undef,.undef,.undef,.undef,.undef,.undef,.undef,.undef,.undef,.undef,.undef,.undef,.undef,.undef,.undef,.slice none 1 0 0 true,.slice none 5 0 0 true,.undef,.undef,.slice none 2 0 0 true,.slice none 4 0 0 true]] none) λ_=>.br 125 (λ_=>.bd λx41 q41=>Cl [Fo,Fo,Fo,Fo] none [.undef,.undef,.slice none 8 0 0 true] (FQ (d+0) q41) <| .st none <| .st none <| Fn none [.agg [.undef,.undef,.undef,.undef,.undef,.undef,.undef,.undef,.undef,.undef,.undef,.undef,.undef,.undef,.undef,.undef,.undef,.slice none 1 0 0 true,.slice none 5 0 0 true,.undef,.undef,.slice none 2 0 0 true,.slice none 4 0 0 true]] none) λ_=>.br 138 (λ_=>.bd λx42 q42=>iF (bA (d+4) q42) <| .st none <| .st none <| Fn none [.agg [.undef,.undef,.undef,.undef,.undef,.undef,.undef,.undef,.undef,.undef,.undef,.undef,.undef,.undef,.undef,.undef,.undef,.slice none 1 0 0 true,.slice none 5 0 0 true,.undef,.undef,.slice none 2 0 0 true,.slice none 4 0 0 true]] none) λ_=>.br 146 (λ_=>.gd λq43=>Ap Fe 151 q43 <| .st none <| .st none <| Fn none [.agg [.undef,.undef,.undef,.undef,.undef,.undef,.undef,.undef,.undef,.undef,.undef,.undef,.undef,.undef,.undef,.undef,.undef,.slice none 1 0 0 true,.slice none 5 0 0 true,.undef,.undef,.slice none 2 0 0 true,.slice none 4 0 0 true]] none) λ_=>.st none <| Fn none [.agg [.undef,.undef,.undef,.undef,.undef,.undef,.undef,.undef,.undef,.undef,.undef,.undef,.undef,.undef,.undef,.undef,.undef,.slice none 1 0 0 true,.slice none 5 0 0 true,.undef,.undef,.slice none 2 0 0 true,.slice none 4 0 0 true]] none)
abbrev Ls (a:aD) (bG:aD):Fast×WH:=([(2,(.ptr (some (0,0)))),(3,(.ptr (some (1,0))))],[(some (.cells (cO a) false false)),(some (.cells (cO bG) false false))])
def J5 (a:aD) (bG:aD):Unit⊕Unit→Ex×Fast×WH:=fun
 | .inl e=>(.ret,[(4,(.bool false))],[])
 | .inr e=>(.normal,[(2,(.ptr (some (0,0)))),(3,(.ptr (some (1,0))))],[(some (.cells (cO a) false false)),(some (.cells (cO bG) false false))])
def zR (a:aD) (bG:aD):Option (Unit⊕Unit) :=
 cond (a.fB != bG.fB) (some (.inl ())) (cond (a.Epoch != bG.Epoch) (some (.inl ())) (cond ((a.Pairs.length:Int) != (bG.Pairs.length:Int)) (some (.inl ())) (cond ((a.gB.length:Int) != (bG.gB.length:Int)) (some (.inl ())) (some (.inr ())))))
theorem CZ (d:Nat) {a:aD} {bG:aD} {r:Unit⊕Unit} (h:zR a bG=some r):bX (aU (aG aH (d+0)) KK 73 acC) 0 (Ls a bG) (J5 a bG r):=by
 unfold zR at h
 exact bE nB aaY h (.br 12 (λ_=>E0 [4]) λ_=>.br 19 (λ_=>E0 [4]) λ_=>.br 28 (λ_=>E0 [4]) λ_=>.br 36 (λ_=>E0 [4]) λ_=>E0 [2,3])
def oG (a:aD) (bG:aD) (s5:Int):List AV×WH:=([(.ptr (some (0,0))),(.ptr (some (1,0))),(.int .i64 s5)],[(some (.cells (cO a) false false)),(some (.cells (cO bG) false false))])
def tF (a:aD) (bG:aD):Unit⊕Unit→Ex×Fast×WH:=fun
 | .inl e=>(.ret,[(4,(.bool false))],[])
 | .inr e=>((.exit 0),[(2,(.ptr (some (0,0)))),(3,(.ptr (some (1,0))))],[(some (.cells (cO a) false false)),(some (.cells (cO bG) false false))])
abbrev Lu (a:aD) (bG:aD):=eY [2,3,5] (oG a bG) (tF a bG)
def qj (a:aD) (bG:aD) (s5:Int):Option ((Int)⊕(Unit⊕Unit)) :=
 cond (decide (s5 < (a.Pairs.length:Int))) ((bW a.Pairs s5).bind λ(x6:au)=>(bW bG.Pairs s5).bind λ(x7:au)=>cond (!(x6.Key==x7.Key&&(x6.Value==x7.Value&&true))) (some (.inr (.inl ()))) (some (.inl (IntKind.i64.wrap (s5+1))))) (some (.inr (.inr ())))
def Gq (a:aD) (bG:aD) (s5:Int):Option (Unit⊕Unit):=eG (qj a bG) KK s5
theorem M_ (d:Nat) {a:aD} {bG:aD} {s5:Int} {r:(Int)⊕(Unit⊕Unit)} (h:qj a bG s5=some r):bX (aU (aG aH (d+0)) KK 73 aaZ) 0 (mQ [2,3,5] (oG a bG s5)) (Lu a bG r):=by
 unfold qj at h
 exact bE nB adx h (.br 41 (λ_=>.bd λx6 q6=>Ix aJ 47 q6 <| .bd λx7 q7=>Ix aJ 52 q7 <| .br 54 (λ_=>E0 [4]) λ_=>E0 [2,3,5]) λ_=>E0 [2,3])
theorem C8 (d:Nat) {a:aD} {bG:aD} {s5:Int} {r:Unit⊕Unit} (h:Gq a bG s5=some r):bX (gq (aU (aG aH (d+0)) KK 73 aaZ) [2,3,5] KK) 0 (mQ [2,3,5] (oG a bG s5)) (tF a bG r) :=
 dL (st:=oG a bG) (fin:=tF a bG) (step:=qj a bG) (λe=>by rcases e with e | e<;>(intro h;cases h)) (λs x h=>M_ d h) KK s5 r h
def oH (a:aD) (bG:aD) (s12:Int):List AV×WH:=([(.ptr (some (0,0))),(.ptr (some (1,0))),(.int .i64 s12)],[(some (.cells (cO a) false false)),(some (.cells (cO bG) false false))])
def tH (a:aD) (bG:aD):Unit⊕Unit→Ex×Fast×WH:=fun
 | .inl e=>(.ret,[(4,(.bool false))],[])
 | .inr e=>((.exit 2),[],[])
abbrev Lv (a:aD) (bG:aD):=eY [2,3,6] (oH a bG) (tH a bG)
def ql (a:aD) (bG:aD) (s12:Int):Option ((Int)⊕(Unit⊕Unit)) :=
 cond (decide (s12 < (a.gB.length:Int))) ((bW a.gB s12).bind λ(rG:ak)=>(bW bG.gB s12).bind λ(kR:ak)=>cond (!(rG.Client==kR.Client&&(rG.Seq==kR.Seq&&(rG.Answer.Why==kR.Answer.Why&&(rG.Answer.Value==kR.Answer.Value&&true))))) (some (.inr (.inl ()))) (some (.inl (IntKind.i64.wrap (s12+1))))) (some (.inr (.inr ())))
def Gs (a:aD) (bG:aD) (s12:Int):Option (Unit⊕Unit):=eG (ql a bG) KK s12
theorem Na (d:Nat) {a:aD} {bG:aD} {s12:Int} {r:(Int)⊕(Unit⊕Unit)} (h:ql a bG s12=some r):bX (aU (aG aH (d+0)) KK 73 aa0) 0 (mQ [2,3,6] (oH a bG s12)) (Lv a bG r):=by
 unfold ql at h
 exact bE nB ady h (.br 59 (λ_=>.bd λrG Uv=>Ix bQ 65 Uv <| .bd λkR NJ=>Ix bQ 70 NJ <| .br 72 (λ_=>E0 [4]) λ_=>E0 [2,3,6]) λ_=>E0 [])
theorem C9 (d:Nat) {a:aD} {bG:aD} {s12:Int} {r:Unit⊕Unit} (h:Gs a bG s12=some r):bX (gq (aU (aG aH (d+0)) KK 73 aa0) [2,3,6] KK) 0 (mQ [2,3,6] (oH a bG s12)) (tH a bG r) :=
 dL (st:=oH a bG) (fin:=tH a bG) (step:=ql a bG) (λe=>by rcases e with e | e<;>(intro h;cases h)) (λs x h=>Na d h) KK s12 r h
def FR (a:aD) (bG:aD):Option (Bool) :=
 (zR a bG).bind λ(x1:Unit⊕Unit)=>cond (mW x1) (some false) ((Gq a bG 0).bind λ(x8:Unit⊕Unit)=>cond (mW x8) (some false) ((Gs a bG 0).bind λ(bR:Unit⊕Unit)=>cond (mW bR) (some false) (some true)))
def EO (a:aD) (bG:aD) (r:Bool):AV×WH:=((.bool r),[])
theorem Ti (d:Nat) {a:aD} {bG:aD} {r:Bool} (h:FR a bG=some r):Spec (aG aH (d+1)) 64 [(.agg (cO a)),(.agg (cO bG))] [] (EO a bG r).1 (EO a bG r).2:=by
 unfold FR at h
 exact aW nB aof h (.sk <| .bd λx1 q1=>.ite (λhb2=>Jn [2,3] [none,none] [] [] (nA (il hb2) (CZ (d+0) q1)) <| Fn Fo [] none) λhb2=>Jn [2,3] [none,none] [] [] (nA (D_ hb2) (CZ (d+0) q1)) <| .bd λx8 q8=>.ite (λhb9=>Lp [none,none,none] [] [] (nA (il hb9) (C8 (d+0) q8)) <| Fn Fo [] none) λhb9=>Lp [none,none,none] [] [] (nA (D_ hb9) (C8 (d+0) q8)) <| .bd λbR Rf=>.ite (λalU=>Lp [none,none,none] [] [] (nA (il alU) (C9 (d+0) Rf)) <| Fn Fo [] none) λalU=>Lp [none,none,none] [] [] (nA (D_ alU) (C9 (d+0) Rf)) <| Fn Fo [] none)
def wT (m:aO):Option (List Int) :=
 some [m.Kind,m.From,m.To,m.fB,m.Epoch,m.Weight,m.Load,m.m_]
def Nb (m:aO) (r:List Int):AV×WH:=((K_ r),[])
theorem FT (d:Nat) {m:aO} {r:List Int} (h:wT m=some r):Spec (aG aH (d+1)) 46 [(.agg (dH m))] [] (Nb m r).1 (Nb m r).2:=by
 unfold wT at h
 exact aW nB an1 h (Fn Fo [] none)
def qR (n:Int):Option (Bool) :=
 cond (decide (n≥0)) (some (decide (n≤4611686018427387903))) (some false)
def IY (n:Int) (r:Bool):AV×WH:=((.bool r),[])
theorem Aq (d:Nat) {n:Int} {r:Bool} (h:qR n=some r):Spec (aG aH (d+1)) 44 [(.int .i64 n)] [] (IY n r).1 (IY n r).2:=by
 unfold qR at h
 exact aW nB anZ h (.br 5 (λ_=>Fn Fo [] none) λ_=>Fn Fo [] none)
def C_ (n:Int):Option (Bool) :=
 (qR n).bind λ(x1:Bool)=>some (!x1)
def Gt (n:Int) (r:Bool):AV×WH:=((.bool r),[])
theorem UJ (d:Nat) {n:Int} {r:Bool} (h:C_ n=some r):Spec (aG aH (d+2)) 43 [(.int .i64 n)] [] (Gt n r).1 (Gt n r).2:=by
 unfold C_ at h
 exact aW nB anY h (.bd λx1 q1=>iF (Aq (d+0) q1) <| Fn Fo [] none)
def gZ (a0:List Int) (s3:Int):List AV×WH:=([(K_ a0),(.func 43 []),(.int .i64 (a0.length:Int)),(.int .i64 s3)],[])
def jg (a0:List Int):Int⊕Unit→Ex×Fast×WH:=fun
 | .inl e=>(.ret,[(4,(.int .i64 e))],[])
 | .inr e=>((.exit 0),[],[])
abbrev yD (a0:List Int):=eY [0,1,7,8] (gZ a0) (jg a0)
def dX (a0:List Int) (s3:Int):Option ((Int)⊕(Int⊕Unit)) :=
 cond (decide (s3 < (a0.length:Int))) ((bW a0 s3).bind λ(x4:Int)=>(C_ x4).bind λ(x5:Bool)=>cond x5 (some (.inr (.inl s3))) (some (.inl (IntKind.i64.wrap (s3+1))))) (some (.inr (.inr ())))
def kE (a0:List Int) (s3:Int):Option (Int⊕Unit):=eG (dX a0) KK s3
theorem zu (d:Nat) {a0:List Int} {s3:Int} {r:(Int)⊕(Int⊕Unit)} (h:dX a0 s3=some r):bX (aU (aG aH (d+2)) KK 19 aa3) 0 (mQ [0,1,7,8] (gZ a0 s3)) (yD a0 r):=by
 unfold dX at h
 exact bE nB adB h (.br 9 (λ_=>.bd λx4 q4=>Ix Fe 14 q4 <| .bd λx5 q5=>iF (UJ (d+0) q5) <| .br 16 (λ_=>E0 [4]) λ_=>E0 [0,1,7,8]) λ_=>E0 [])
theorem nX (d:Nat) {a0:List Int} {s3:Int} {r:Int⊕Unit} (h:kE a0 s3=some r):bX (gq (aU (aG aH (d+2)) KK 19 aa3) [0,1,7,8] KK) 0 (mQ [0,1,7,8] (gZ a0 s3)) (jg a0 r) :=
 dL (st:=gZ a0) (fin:=jg a0) (step:=dX a0) (λe=>by rcases e with e | e<;>(intro h;cases h)) (λs x h=>zu d h) KK s3 r h
def jF (a0:List Int):Option (Int) :=
 (kE a0 0).bind λ(x6:Int⊕Unit)=>cond (mW x6) (some (Bg x6)) (some (-1))
def pG (a0:List Int) (r:Int):AV×WH:=((.int .i64 r),[])
theorem BA (d:Nat) {a0:List Int} {r:Int} (h:jF a0=some r):Spec (aG aH (d+3)) 86 [(K_ a0),(.func 43 [])] [] (pG a0 r).1 (pG a0 r).2:=by
 unfold jF at h
 exact aW nB aoq h (.bd λx6 q6=>.ite (λzO=>Lp [none,none,none,none] [] [] (nA (il zO) (nX (d+0) q6)) <| Fn Fo [] none) λzO=>Lp [none,none,none,none] [] [] (nA (D_ zO) (nX (d+0) q6)) <| Fn Fo [] none)
def fO (a0:List Int):Option (Bool) :=
 (jF a0).bind λ(x1:Int)=>some (decide (x1≥0))
def ng (a0:List Int) (r:Bool):AV×WH:=((.bool r),[])
theorem nY (d:Nat) {a0:List Int} {r:Bool} (h:fO a0=some r):Spec (aG aH (d+4)) 45 [(K_ a0),(.func 43 [])] [] (ng a0 r).1 (ng a0 r).2:=by
 unfold fO at h
 exact aW nB an0 h (.bd λx1 q1=>iF (BA (d+0) q1) <| Fn Fo [] none)
def EP (aR:av):Option (Bool) :=
 (qR aR.Inc).bind λ(x1:Bool)=>cond (!x1) (some true) (cond (decide (aR.Status < 0)) (some true) (cond (decide (aR.Status > 2)) (some true) ((qR aR.nV).bind λ(x2:Bool)=>cond (!x2) (some true) ((qR aR.Load).bind λ(x3:Bool)=>some (!x3)))))
def KI (aR:av) (r:Bool):AV×WH:=((.bool r),[])
theorem ZF (d:Nat) {aR:av} {r:Bool} (h:EP aR=some r):Spec (aG aH (d+2)) 48 [(.agg (vE aR))] [] (KI aR r).1 (KI aR r).2:=by
 unfold EP at h
 exact aW nB an3 h (.bd λx1 q1=>iF (Aq (d+0) q1) <| .br 7 (λ_=>Fn Fo [] none) λ_=>.br 12 (λ_=>Fn Fo [] none) λ_=>.br 17 (λ_=>Fn Fo [] none) λ_=>.bd λx2 q2=>iF (Aq (d+0) q2) <| .br 23 (λ_=>Fn Fo [] none) λ_=>.bd λx3 q3=>iF (Aq (d+0) q3) <| Fn Fo [] none)
def eH (a0:List av) (s3:Int):List AV×WH:=([(dK a0),(.func 48 []),(.int .i64 (a0.length:Int)),(.int .i64 s3)],[])
def f_ (a0:List av):Int⊕Unit→Ex×Fast×WH:=fun
 | .inl e=>(.ret,[(4,(.int .i64 e))],[])
 | .inr e=>((.exit 0),[],[])
abbrev oI (a0:List av):=eY [0,1,7,8] (eH a0) (f_ a0)
def bS (a0:List av) (s3:Int):Option ((Int)⊕(Int⊕Unit)) :=
 cond (decide (s3 < (a0.length:Int))) ((bW a0 s3).bind λ(x4:av)=>(EP x4).bind λ(x5:Bool)=>cond x5 (some (.inr (.inl s3))) (some (.inl (IntKind.i64.wrap (s3+1))))) (some (.inr (.inr ())))
def gP (a0:List av) (s3:Int):Option (Int⊕Unit):=eG (bS a0) KK s3
theorem pI (d:Nat) {a0:List av} {s3:Int} {r:(Int)⊕(Int⊕Unit)} (h:bS a0 s3=some r):bX (aU (aG aH (d+2)) KK 19 aa4) 0 (mQ [0,1,7,8] (eH a0 s3)) (oI a0 r):=by
 unfold bS at h
 exact bE nB adD h (.br 9 (λ_=>.bd λx4 q4=>Ix jK 14 q4 <| .bd λx5 q5=>iF (ZF (d+0) q5) <| .br 16 (λ_=>E0 [4]) λ_=>E1 [0,1,7,8] [none,none,none,none] [] [.slice none 5 0 0 true,.undef,.undef,.undef]) λ_=>E0 [])
theorem jd (d:Nat) {a0:List av} {s3:Int} {r:Int⊕Unit} (h:gP a0 s3=some r):bX (gq (aU (aG aH (d+2)) KK 19 aa4) [0,1,7,8] KK) 0 (mQ [0,1,7,8] (eH a0 s3)) (f_ a0 r) :=
 dL (st:=eH a0) (fin:=f_ a0) (step:=bS a0) (λe=>by rcases e with e | e<;>(intro h;cases h)) (λs x h=>pI d h) KK s3 r h
def fT (a0:List av):Option (Int) :=
 (gP a0 0).bind λ(x6:Int⊕Unit)=>cond (mW x6) (some (Bg x6)) (some (-1))
def jl (a0:List av) (r:Int):AV×WH:=((.int .i64 r),[])
theorem qU (d:Nat) {a0:List av} {r:Int} (h:fT a0=some r):Spec (aG aH (d+3)) 87 [(dK a0),(.func 48 [])] [] (jl a0 r).1 (jl a0 r).2:=by
 unfold fT at h
 exact aW nB aor h (.bd λx6 q6=>.ite (λzO=>Lp [none,none,none,none] [] [.slice none 5 0 0 true,.undef,.undef,.undef] (nA (il zO) (jd (d+0) q6)) <| Fn Fo [] none) λzO=>Lp [none,none,none,none] [] [.slice none 5 0 0 true,.undef,.undef,.undef] (nA (D_ zO) (jd (d+0) q6)) <| Fn Fo [] none)
def dP (a0:List av):Option (Bool) :=
 (fT a0).bind λ(x1:Int)=>some (decide (x1≥0))
def iR (a0:List av) (r:Bool):AV×WH:=((.bool r),[])
theorem pJ (d:Nat) {a0:List av} {r:Bool} (h:dP a0=some r):Spec (aG aH (d+4)) 47 [(dK a0),(.func 48 [])] [] (iR a0 r).1 (iR a0 r).2:=by
 unfold dP at h
 exact aW nB an2 h (.bd λx1 q1=>Cb [.slice none 5 0 0 true] (qU (d+0) q1) <| Fn Fo [] none)
abbrev Nc (o:aY):Fast×WH:=([(1,(.ptr (some (0,0))))],[(some (.cells (fF o) false false))])
def LA (o:aY):Bool→Ex×Fast×WH:=λe=>(.normal,[(1,(.ptr (some (0,0)))),(3,(.bool e))],[(some (.cells (fF o) false false))])
def wU (o:aY):Option (Bool) :=
 cond (o.Kind==2) (some true) (some (o.Kind==4))
theorem OA (d:Nat) {o:aY} {r:Bool} (h:wU o=some r):bX (aU (aG aH (d+0)) KK 53 acD) 0 (Nc o) (LA o r):=by
 unfold wU at h
 exact bE nB aa5 h (.br 7 (λ_=>E0 [1,3]) λ_=>E0 [1,3])
abbrev Nf (o:aY) (x1:Bool):Fast×WH:=([(1,(.ptr (some (0,0)))),(3,(.bool x1))],[(some (.cells (fF o) false false))])
def LB (o:aY) (x1:Bool):Bool→Ex×Fast×WH:=λe=>(.normal,[(1,(.ptr (some (0,0)))),(3,(.bool x1)),(12,(.bool e))],[(some (.cells (fF o) false false))])
def wV (o:aY) (x1:Bool):Option (Bool) :=
 cond (decide (o.Kind < 1)) (some true) (some (decide (o.Kind > 4)))
theorem OB (d:Nat) {o:aY} {x1:Bool} {r:Bool} (h:wV o x1=some r):bX (aU (aG aH (d+0)) KK 53 PI) 0 (Nf o x1) (LB o x1 r):=by
 unfold wV at h
 exact bE nB Sr h (.br 16 (λ_=>E0 [1,3,12]) λ_=>E0 [1,3,12])
abbrev Ng (o:aY) (x1:Bool):Fast×WH:=([(1,(.ptr (some (0,0)))),(3,(.bool x1))],[(some (.cells (fF o) false false))])
def LC (o:aY) (x1:Bool):Bool→Ex×Fast×WH:=λe=>(.normal,[(1,(.ptr (some (0,0)))),(3,(.bool x1)),(12,(.bool e))],[(some (.cells (fF o) false false))])
def wW (o:aY) (x1:Bool):Option (Bool) :=
 (wV o x1).bind λ(x2:Bool)=>cond x2 (some true) (cond (o.Key==([]:List UInt8)) (some true) (some (decide ((o.Key.length:Int) > 8))))
theorem OC (d:Nat) {o:aY} {x1:Bool} {r:Bool} (h:wW o x1=some r):bX (aU (aG aH (d+0)) KK 53 Sq) 0 (Ng o x1) (LC o x1 r):=by
 unfold wW at h
 exact bE nB Uq h (.bd λx2 q2=>Jn [1,3] [none,none] [] [] (OB (d+0) q2) <| .br 12 (λ_=>E0 [1,3,12]) λ_=>.br 12 (λ_=>E0 [1,3,12]) λ_=>E0 [1,3,12])
abbrev Nh (o:aY) (x1:Bool):Fast×WH:=([(1,(.ptr (some (0,0)))),(3,(.bool x1))],[(some (.cells (fF o) false false))])
def LD (o:aY) (x1:Bool):Unit⊕Unit→Ex×Fast×WH:=fun
 | .inl e=>(.ret,[(2,(.bool false))],[])
 | .inr e=>(.normal,[(1,(.ptr (some (0,0)))),(3,(.bool x1))],[(some (.cells (fF o) false false))])
def wX (o:aY) (x1:Bool):Option (Unit⊕Unit) :=
 (wW o x1).bind λ(x3:Bool)=>cond x3 (some (.inl ())) (cond (decide ((o.Value.length:Int) > 16)) (some (.inl ())) (cond (decide ((o.Old.length:Int) > 16)) (some (.inl ())) (some (.inr ()))))
theorem ER (d:Nat) {o:aY} {x1:Bool} {r:Unit⊕Unit} (h:wX o x1=some r):bX (aU (aG aH (d+0)) KK 53 YR) 0 (Nh o x1) (LD o x1 r):=by
 unfold wX at h
 exact bE nB YS h (.bd λx3 q3=>Jn [1,3] [none,none] [] [] (OC (d+0) q3) <| .br 12 (λ_=>E0 [2]) λ_=>.br 28 (λ_=>E0 [2]) λ_=>.br 28 (λ_=>E0 [2]) λ_=>E0 [1,3])
def vN (o:aY):Option (Bool) :=
 (wU o).bind λ(x1:Bool)=>(wX o x1).bind λ(x4:Unit⊕Unit)=>cond (mW x4) (some false) (cond x1 (cond (o.Kind==4) (some true) (some (o.Old==([]:List UInt8)))) (cond (o.Value==([]:List UInt8)) (cond (o.Kind==4) (some true) (some (o.Old==([]:List UInt8)))) (some false)))
def Gu (o:aY) (r:Bool):AV×WH:=((.bool r),[])
theorem KJ (d:Nat) {o:aY} {r:Bool} (h:vN o=some r):Spec (aG aH (d+1)) 88 [(.agg (fF o))] [] (Gu o r).1 (Gu o r).2:=by
 unfold vN at h
 exact aW nB aos h (.sk <| .bd λx1 q1=>Jn [1] [none] [] [] (OA (d+0) q1) <| .bd λx4 q4=>.ite (λhb5=>Jn [1,3] [none,none] [] [] (nA (il hb5) (ER (d+0) q4)) <| Fn Fo [] none) λhb5=>Jn [1,3] [none,none] [] [] (nA (D_ hb5) (ER (d+0) q4)) <| .br 38 (λ_=>.br 47 (λ_=>Fn Fo [] none) λ_=>Fn Fo [] none) λ_=>.br 43 (λ_=>.br 47 (λ_=>Fn Fo [] none) λ_=>Fn Fo [] none) λ_=>Fn Fo [] none)
def kW (p_r:aX):Option (Bool) :=
 cond (p_r.Client==0&&(p_r.Seq==0&&(p_r.Op.Kind==0&&(p_r.Op.Key==([]:List UInt8)&&(p_r.Op.Value==([]:List UInt8)&&(p_r.Op.Old==([]:List UInt8)&&true)))))) (some true) (cond (decide (p_r.Client≥0)) (cond (decide (p_r.Client < 4)) (cond (decide (p_r.Seq≥1)) (cond (decide (p_r.Seq≤4611686018427387903)) ((vN p_r.Op).bind λ(x1:Bool)=>some x1) (some false)) (some false)) (some false)) (some false))
def BD (p_r:aX) (r:Bool):AV×WH:=((.bool r),[])
theorem yE (d:Nat) {p_r:aX} {r:Bool} (h:kW p_r=some r):Spec (aG aH (d+2)) 49 [(.agg (vF p_r))] [] (BD p_r r).1 (BD p_r r).2:=by
 unfold kW at h
 exact aW nB an4 h (.br 5 (λ_=>Fn Fo [] none) λ_=>.br 9 (λ_=>.br 14 (λ_=>.br 19 (λ_=>.br 24 (λ_=>.bd λx1 q1=>iF (KJ (d+0) q1) <| Fn Fo [] none) λ_=>Fn Fo [] none) λ_=>Fn Fo [] none) λ_=>Fn Fo [] none) λ_=>Fn Fo [] none)
def iU (a:aA):Option (Bool) :=
 cond (decide (a.Why≥0)) (cond (decide (a.Why≤11)) (some (decide ((a.Value.length:Int)≤16))) (some false)) (some false)
def xX (a:aA) (r:Bool):AV×WH:=((.bool r),[])
theorem tJ (d:Nat) {a:aA} {r:Bool} (h:iU a=some r):Spec (aG aH (d+1)) 50 [(.agg (dQ a))] [] (xX a r).1 (xX a r).2:=by
 unfold iU at h
 exact aW nB an5 h (.br 6 (λ_=>.br 11 (λ_=>Fn Fo [] none) λ_=>Fn Fo [] none) λ_=>Fn Fo [] none)
def BF (aR:aD):Option (Bool) :=
 cond (aR.fB==0) (cond (aR.Epoch==0) (cond ((aR.Pairs.length:Int)==0) (some ((aR.gB.length:Int)==0)) (some false)) (some false)) (some false)
def IZ (aR:aD) (r:Bool):AV×WH:=((.bool r),[])
theorem XC (d:Nat) {aR:aD} {r:Bool} (h:BF aR=some r):Spec (aG aH (d+1)) 89 [(.agg (cO aR))] [] (IZ aR r).1 (IZ aR r).2:=by
 unfold BF at h
 exact aW nB aot h (.br 6 (λ_=>.br 11 (λ_=>.br 17 (λ_=>Fn Fo [] none) λ_=>Fn Fo [] none) λ_=>Fn Fo [] none) λ_=>Fn Fo [] none)
def cmp_isNaN_string (a0:List UInt8):Option (Bool) :=
 some (!(a0==a0))
def zw (a0:List UInt8) (r:Bool):AV×WH:=((.bool r),[])
theorem BG (d:Nat) {a0:List UInt8} {r:Bool} (h:cmp_isNaN_string a0=some r):Spec (aG aH (d+1)) 154 [(.str a0)] [] (zw a0 r).1 (zw a0 r).2:=by
 unfold cmp_isNaN_string at h
 exact aW nB ane h (Fn Fo [] none)
def oJ (a0:List UInt8) (a1:List UInt8):Option (Int) :=
 (cmp_isNaN_string a0).bind λ(x1:Bool)=>(cmp_isNaN_string a1).bind λ(x2:Bool)=>cond x1 (cond x2 (some 0) (some (-1))) (cond x2 (some 1) (cond (Op.bytesLess a0 a1) (some (-1)) (cond (!(Op.bytesLess a0 a1 || a0==a1)) (some 1) (some 0))))
def wY (a0:List UInt8) (a1:List UInt8) (r:Int):AV×WH:=((.int .i64 r),[])
theorem I4 (d:Nat) {a0:List UInt8} {a1:List UInt8} {r:Int} (h:oJ a0 a1=some r):Spec (aG aH (d+2)) 151 [(.str a0),(.str a1)] [] (wY a0 a1 r).1 (wY a0 a1 r).2:=by
 unfold oJ at h
 exact aW nB ana h (.bd λx1 q1=>iF (BG (d+0) q1) <| .bd λx2 q2=>iF (BG (d+0) q2) <| .br 11 (λ_=>.br 12 (λ_=>Fn Fo [] none) λ_=>Fn Fo [] none) λ_=>.br 13 (λ_=>Fn Fo [] none) λ_=>.br 16 (λ_=>Fn Fo [] none) λ_=>.br 19 (λ_=>Fn Fo [] none) λ_=>Fn Fo [] none)
def jr (p:au) (key:List UInt8):Option (Int) :=
 (oJ p.Key key).bind λ(x1:Int)=>some x1
def wZ (p:au) (key:List UInt8) (r:Int):AV×WH:=((.int .i64 r),[])
theorem zx (d:Nat) {p:au} {key:List UInt8} {r:Int} (h:jr p key=some r):Spec (aG aH (d+3)) 150 [(.agg (ou p)),(.str key)] [] (wZ p key r).1 (wZ p key r).2:=by
 unfold jr at h
 exact aW nB am9 h (.bd λx1 q1=>iF (I4 (d+0) q1) <| Fn Fo [] none)
def dD (a0:List au) (a1:List UInt8) (s3:Int×Int):List AV×WH:=([(bK a0),(.str a1),(.func 150 []),(.int .i64 (a0.length:Int)),(.int .i64 s3.1),(.int .i64 s3.2)],[])
def dY (a0:List au) (a1:List UInt8):Int→Ex×Fast×WH:=λe=>((.exit 0),[(0,(bK a0)),(1,(.str a1)),(2,(.func 150 [])),(8,(.int .i64 (a0.length:Int))),(9,(.int .i64 e))],[])
abbrev jX (a0:List au) (a1:List UInt8):=eY [0,1,2,8,9,10] (dD a0 a1) (dY a0 a1)
def bT (a0:List au) (a1:List UInt8) (s3:Int×Int):Option ((Int×Int)⊕(Int)) :=
 cond (decide (s3.1 < s3.2)) ((bW a0 (IntKind.i64.wrap (Uf .u64 (IntKind.u64.wrap (IntKind.i64.wrap (s3.1+s3.2))) 1))).bind λ(x4:au)=>(jr x4 a1).bind λ(x5:Int)=>cond (decide (x5 < 0)) (some (.inl ((IntKind.i64.wrap ((IntKind.i64.wrap (Uf .u64 (IntKind.u64.wrap (IntKind.i64.wrap (s3.1+s3.2))) 1))+1)),s3.2))) (some (.inl (s3.1,(IntKind.i64.wrap (Uf .u64 (IntKind.u64.wrap (IntKind.i64.wrap (s3.1+s3.2))) 1)))))) (some (.inr s3.1))
def eZ (a0:List au) (a1:List UInt8) (s3:Int×Int):Option (Int):=eG (bT a0 a1) KK s3
theorem j_ (d:Nat) {a0:List au} {a1:List UInt8} {s3:Int×Int} {r:(Int×Int)⊕(Int)} (h:bT a0 a1 s3=some r):bX (aU (aG aH (d+3)) KK 49 Xp) 0 (mQ [0,1,2,8,9,10] (dD a0 a1 s3)) (jX a0 a1 r):=by
 unfold bT at h
 exact bE nB abq h (.br 17 (λ_=>.bd λx4 q4=>Ix aJ 27 q4 <| .bd λx5 q5=>iF (zx (d+0) q5) <| .br 31 (λ_=>E1 [0,1,2,8,9,10] [none,none,none,none,none,none] [] [.slice none 2 0 0 true,.undef,.undef,.undef,.undef,.undef]) λ_=>E1 [0,1,2,8,9,10] [none,none,none,none,none,none] [] [.slice none 2 0 0 true,.undef,.undef,.undef,.undef,.undef]) λ_=>E1 [0,1,2,8,9] [none,none,none,none,none] [] [.slice none 2 0 0 true,.undef,.undef,.undef,.undef])
theorem kg (d:Nat) {a0:List au} {a1:List UInt8} {s3:Int×Int} {r:Int} (h:eZ a0 a1 s3=some r):bX (gq (aU (aG aH (d+3)) KK 49 Xp) [0,1,2,8,9,10] KK) 0 (mQ [0,1,2,8,9,10] (dD a0 a1 s3)) (dY a0 a1 r) :=
 dL (st:=dD a0 a1) (fin:=dY a0 a1) (step:=bT a0 a1) (λe=>by (intro h;cases h)) (λs x h=>j_ d h) KK s3 r h
def b_ (a0:List au) (a1:List UInt8):Option (Int×Bool) :=
 (eZ a0 a1 (0,(a0.length:Int))).bind λ(x6:Int)=>cond (decide (x6 < (a0.length:Int))) ((bW a0 x6).bind λ(x7:au)=>(jr x7 a1).bind λ(x8:Int)=>some (x6,(x8==0))) (some (x6,false))
def gK (a0:List au) (a1:List UInt8) (r:Int×Bool):AV×WH:=((.tuple [(.int .i64 r.1),(.bool r.2)]),[])
theorem kX (d:Nat) {a0:List au} {a1:List UInt8} {r:Int×Bool} (h:b_ a0 a1=some r):Spec (aG aH (d+4)) 149 [(bK a0),(.str a1),(.func 150 [])] [] (gK a0 a1 r).1 (gK a0 a1 r).2:=by
 unfold b_ at h
 exact aW nB am8 h (.bd λx6 q6=>Lp [none,none,none,none,none,none] [] [.slice none 2 0 0 true,.undef,.undef,.undef,.undef,.undef] (kg (d+0) q6) <| .br 39 (λ_=>.bd λx7 q7=>Ix aJ 43 q7 <| .bd λx8 q8=>iF (zx (d+0) q8) <| Fn Fo [] none) λ_=>Fn Fo [] none)
def jT (k:Int) (value:List UInt8) (aT:List au):Option (List au) :=
 gd (dB 32 aT.length) ((bW aT k).bind λ(x2:au)=>some (aT.set k.toNat (⟨x2.Key,value⟩:au)))
def iE (k:Int) (value:List UInt8) (aT:List au) (r:List au):AV×WH:=((.tuple []),[(some (.cells [(.acc 2 0 2 r.length true)] false false)),(some (.cells (aB aT) false true)),(some (.cells (aB r) false true))])
theorem Ag (d:Nat) {k:Int} {value:List UInt8} {aT:List au} {r:List au} (h:jT k value aT=some r):Spec (aG aH (d+2)) 152 [(.ptr (some (0,0))),(.int .i64 k),(.str value)] [(some (.cells [(.acc 1 0 2 aT.length true)] false false)),(some (.cells (aB aT) false true))] (iE k value aT r).1 (iE k value aT r).2:=by
 unfold jT at h
 exact aW (Gj _) anb h (.gd λq1=>.ob q1 <| .st none <| .bd λx2 q2=>Ia aJ 20 2 q2 <| .st (some (aB (aT.set k.toNat (⟨x2.Key,value⟩:au)))) <| .ob (Dq (o:=1) aJ q2 rfl:Qg (aB aT) (0+k.toNat * 2+1) [(.str value)]=some (aB (aT.set k.toNat (⟨x2.Key,value⟩:au)))) <| .y8 (.fin (some false) [] none) _ (λr=>@Eq AV (.tuple []) (iE k value aT r).1∧@Eq WH [(some (.cells [(.acc 2 0 2 aT.length true)] false false)),(some (.cells (aB aT) false true)),(some (.cells (aB (aT.set k.toNat (⟨x2.Key,value⟩:au))) false true))] (iE k value aT r).2) (by show _∧_;(try rw [show AV.list 2 aT.length (aB (aT.set k.toNat (⟨x2.Key,value⟩:au))) false=bK (aT.set k.toNat (⟨x2.Key,value⟩:au)) from by simp only [bK,List.length_set]]);refine ⟨?_, ?_⟩<;>first | rfl | (simp only [iE,List.length_set,List.length_append,List.length_replicate,List.length_cons,List.length_nil,List.length_take,List.length_drop,Nat.add_zero,Nat.zero_add];done) | simp [iE]))
def qm (o:aY) (k:Int) (aT:List au):Option (aA×List au) :=
 (bW aT k).bind λ(x1:au)=>cond (!(x1.Value==o.Old)) (some ((⟨6,x1.Value⟩:aA),aT)) ((jT k o.Value aT).bind λ(x2:List au)=>some ((⟨0,([]:List UInt8)⟩:aA),x2))
def xY (o:aY) (k:Int) (aT:List au) (r:aA×List au):AV×WH:=((.agg (dQ r.1)),[(some (.cells [(.acc 2 0 2 r.2.length true)] false false)),none,(some (.cells (aB r.2) false true))])
theorem J6 (d:Nat) {o:aY} {k:Int} {aT:List au} {r:aA×List au} (h:qm o k aT=some r):Spec (aG aH (d+3)) 147 [(.ptr (some (0,0))),(.agg (fF o)),(.int .i64 k)] [(some (.cells [(.acc 1 0 2 aT.length true)] false false)),(some (.cells (aB aT) false true))] (xY o k aT r).1 (xY o k aT r).2:=by
 unfold qm at h
 exact aW nB am7 h (.bd λx1 q1=>Ia aJ 13 1 q1 <| Ld aJ 15 false 1 1 q1 (.str x1.Value) rfl <| .br 19 (λ_=>.st none <| Fn Fo [] Tw) λ_=>.bd λx2 q2=>Cl0 (Ag (d+0) q2) <| .st none <| .kl [1] <| Fn Fo [] Tw)
def oK (key:List UInt8) (aT:List au):Option (Int×Bool) :=
 (b_ aT key).bind λ(x1:Int×Bool)=>some (x1.1,x1.2)
def w9 (key:List UInt8) (aT:List au) (r:Int×Bool):AV×WH:=((.tuple [(.int .i64 r.1),(.bool r.2)]),[(some (.cells [(.acc 1 0 2 aT.length true)] false false)),(some (.cells (aB aT) false true))])
theorem I5 (d:Nat) {key:List UInt8} {aT:List au} {r:Int×Bool} (h:oK key aT=some r):Spec (aG aH (d+5)) 145 [(.ptr (some (0,0))),(.str key)] [(some (.cells [(.acc 1 0 2 aT.length true)] false false)),(some (.cells (aB aT) false true))] (w9 key aT r).1 (w9 key aT r).2:=by
 unfold oK at h
 exact aW nB am5 h (.bd λx1 q1=>Cb [.slice none 2 0 0 true] (kX (d+0) q1) <| Fn Fo [] none)
def qo (o:aY) (k:Int) (had:Bool) (aT:List au):Option (aA×List au) :=
 cond had ((jT k o.Value aT).bind λ(x1:List au)=>some ((⟨0,([]:List UInt8)⟩:aA),x1)) (cond ((aT.length:Int)==8) (some ((⟨5,([]:List UInt8)⟩:aA),aT)) (gd (dB 32 aT.length) (gd (aaC 32 k aT.length) (some ((⟨0,([]:List UInt8)⟩:aA),(GU aT k (⟨o.Key,o.Value⟩:au)))))))
def xZ (o:aY) (k:Int) (had:Bool) (aT:List au) (r:aA×List au):AV×WH:=((.agg (dQ r.1)),[(some (.cells [(.acc 2 0 2 r.2.length true)] false false)),none,(some (.cells (aB r.2) false true))])
theorem J7 (d:Nat) {o:aY} {k:Int} {had:Bool} {aT:List au} {r:aA×List au} (h:qo o k had aT=some r):Spec (aG aH (d+3)) 146 [(.ptr (some (0,0))),(.agg (fF o)),(.int .i64 k),(.bool had)] [(some (.cells [(.acc 1 0 2 aT.length true)] false false)),(some (.cells (aB aT) false true))] (xZ o k had aT r).1 (xZ o k had aT r).2:=by
 unfold qo at h
 exact aW (Gj _) am6 h (.br 25 (λ_=>.bd λx1 q1=>Cl0 (Ag (d+0) q1) <| .st none <| .kl [1] <| Fn Fo [] Tw) λ_=>.br 32 (λ_=>.st none <| Fn Fo [] Tw) λ_=>.gd λq2=>.ob q2 <| .gd λq3=>.ob (aeZ q3:(0≤k∧k≤((aT.length:Nat):Int))) <| .ap 22 (GU aT k (⟨o.Key,o.Value⟩:au)).length (aB (GU aT k (⟨o.Key,o.Value⟩:au))) <| .ob (ae0 (l:=aT) q3:aT.length+1=(GU aT k (⟨o.Key,o.Value⟩:au)).length) <| .ob (aiD aJ rfl:(aB aT).take (k.toNat * 2)++([(.str o.Key),(.str o.Value)]++(aB aT).drop (k.toNat * 2))=aB (GU aT k (⟨o.Key,o.Value⟩:au))) <| .ob (alE (l:=aT) q3:dB 32 (GU aT k (⟨o.Key,o.Value⟩:au)).length=true) <| .st none <| .st none <| .kl [1] <| Fn Fo [] Tw)
def nL (o:aY) (aT:List au):Option (aA×List au) :=
 (vN o).bind λ(x1:Bool)=>cond (!x1) (some ((⟨1,([]:List UInt8)⟩:aA),aT)) ((oK o.Key aT).bind λ(x2:Int×Bool)=>cond (o.Kind==2) ((qo o x2.1 x2.2 aT).bind λ(x3:aA×List au)=>some (x3.1,x3.2)) (cond (!x2.2) (some ((⟨4,([]:List UInt8)⟩:aA),aT)) (cond (o.Kind==1) ((bW aT x2.1).bind λ(x4:au)=>some ((⟨0,x4.Value⟩:aA),aT)) (cond (o.Kind==4) ((qm o x2.1 aT).bind λ(x5:aA×List au)=>some (x5.1,x5.2)) (gd (dB 32 aT.length) (gd (aiE x2.1 (IntKind.i64.wrap (x2.1+1)) aT.length) (some ((⟨0,([]:List UInt8)⟩:aA),(JX aT x2.1 (IntKind.i64.wrap (x2.1+1)))))))))))
def zy (o:aY) (aT:List au) (r:aA×List au):AV×WH:=((.agg (dQ r.1)),[(some (.cells [(.acc 2 0 2 r.2.length true)] false false)),none,(some (.cells (aB r.2) false true))])
theorem LG (d:Nat) {o:aY} {aT:List au} {r:aA×List au} (h:nL o aT=some r):Spec (aG aH (d+6)) 141 [(.ptr (some (0,0))),(.agg (fF o))] [(some (.cells [(.acc 1 0 2 aT.length true)] false false)),(some (.cells (aB aT) false true))] (zy o aT r).1 (zy o aT r).2:=by
 unfold nL at h
 exact aW (Gj _) am1 h (.bd λx1 q1=>iF (KJ (d+4) q1) <| .br 9 (λ_=>.st none <| Fn Fo [] Tw) λ_=>.bd λx2 q2=>Cl0 (I5 (d+0) q2) <| .br 18 (λ_=>.bd λx3 q3=>Cl0 (J7 (d+2) q3) <| .st none <| Fn Fo [] Tw) λ_=>.br 27 (λ_=>.st none <| Fn Fo [] Tw) λ_=>.br 31 (λ_=>.bd λx4 q4=>Ia aJ 40 1 q4 <| Ld aJ 42 false 1 1 q4 (.str x4.Value) rfl <| .st none <| Fn Fo [] Tw) λ_=>.br 44 (λ_=>.bd λx5 q5=>Cl0 (J6 (d+2) q5) <| .st none <| Fn Fo [] Tw) λ_=>.gd λq6=>.ob q6 <| .gd λq7=>.ob (ae1 q7:(0≤x2.1∧x2.1 < (IntKind.i64.wrap (x2.1+1))∧(IntKind.i64.wrap (x2.1+1))≤((aT.length:Nat):Int))) <| .ap 61 (JX aT x2.1 (IntKind.i64.wrap (x2.1+1))).length (aB (JX aT x2.1 (IntKind.i64.wrap (x2.1+1)))) <| .ob (alF (l:=aT) q7:aT.length - ((IntKind.i64.wrap (x2.1+1)).toNat - x2.1.toNat)=(JX aT x2.1 (IntKind.i64.wrap (x2.1+1))).length) <| .ob (aiF aJ:(aB aT).take (x2.1.toNat * 2)++(aB aT).drop ((IntKind.i64.wrap (x2.1+1)).toNat * 2)=aB (JX aT x2.1 (IntKind.i64.wrap (x2.1+1)))) <| .st none <| .st none <| .kl [1] <| Fn Fo [] Tw)
def w_ (p:List au) (s5:Int×List au):List AV×WH:=([(.ptr (some (0,0))),(.ptr (some (1,0))),(bK p),(.int .i64 (p.length:Int)),(.int .i64 s5.1)],[(some (.cells [(.acc 2 0 2 0 true)] false false)),(some (.cells [(.acc 3 0 2 s5.2.length true)] false false)),(some (.cells (aB []) false true)),(some (.cells (aB s5.2) false true))])
def zS (p:List au):(List au)→Ex×Fast×WH:=λe=>((.exit 0),[(2,(.ptr (some (0,0)))),(3,(.ptr (some (1,0))))],[(some (.cells [(.acc 2 0 2 0 true)] false false)),(some (.cells [(.acc 3 0 2 e.length true)] false false)),(some (.cells (aB []) false true)),(some (.cells (aB e) false true))])
abbrev Tj (p:List au):=eY [2,3,6,7,8] (w_ p) (zS p)
def pQ (p:List au) (s5:Int×List au):Option ((Int×List au)⊕((List au))) :=
 cond (decide (s5.1 < (p.length:Int))) ((bW p s5.1).bind λ(x6:au)=>(nL (⟨2,x6.Key,x6.Value,([]:List UInt8)⟩:aY) s5.2).bind λ(x7:aA×List au)=>some (.inl ((IntKind.i64.wrap (s5.1+1)),x7.2))) (some (.inr s5.2))
def I6 (p:List au) (s5:Int×List au):Option ((List au)):=eG (pQ p) KK s5
theorem UK (d:Nat) {p:List au} {s5:Int×List au} {r:(Int×List au)⊕((List au))} (h:pQ p s5=some r):bX (aU (aG aH (d+6)) KK 20 Xk) 0 (mQ [2,3,6,7,8] (w_ p s5)) (Tj p r):=by
 unfold pQ at h
 exact bE nB abl h (.br 9 (λ_=>.bd λx6 q6=>Ix aJ 10 q6 <| .st none <| .bd λx7 q7=>Cl0 (LG (d+0) q7) <| E1 [2,3,6,7,8] [none,none,none,none,none] [] [.undef,.undef,.slice none 2 0 0 true,.undef,.undef]) λ_=>E0 [2,3])
theorem UL (d:Nat) {p:List au} {s5:Int×List au} {r:(List au)} (h:I6 p s5=some r):bX (gq (aU (aG aH (d+6)) KK 20 Xk) [2,3,6,7,8] KK) 0 (mQ [2,3,6,7,8] (w_ p s5)) (zS p r) :=
 dL (st:=w_ p) (fin:=zS p) (step:=pQ p) (λe=>by (intro h;cases h)) (λs x h=>UK d h) KK s5 r h
def I7 (p:List au):Option (nW) :=
 (I6 p (0,[])).bind λ(x8:(List au))=>some (⟨x8⟩:nW)
def Ni (p:List au) (r:nW):AV×WH:=((.agg (Ui r)),[])
theorem aby (d:Nat) {p:List au} {r:nW} (h:I7 p=some r):Spec (aG aH (d+7)) 135 [(bK p)] [] (Ni p r).1 (Ni p r).2:=by
 unfold I7 at h
 exact aW nB amW h (.z 2 [.slice none 2 0 0 true] <| .z 3 [.slice none 2 0 0 true] <| .bd λx8 q8=>Lp [none,none,none,none,none] [Tw,Tw,Tw,Tw] [.undef,.undef,.slice none 2 0 0 true,.undef,.undef] (UL (d+0) q8) <| .st none <| Fn Fo [.agg [.slice none 2 0 0 true]] none)
abbrev Ar (aR:ak) (dA:aQ):Fast×WH:=([(0,(.ptr (some (0,0)))),(3,(.ptr (some (1,0))))],[(some (.cells (dF dA) false false)),(some (.cells (bL aR) false false))])
def zT (aR:ak) (dA:aQ):Unit⊕Unit→Ex×Fast×WH:=fun
 | .inl e=>(.ret,[(4,(.bool false))],[(some (.cells (dF dA) false false))])
 | .inr e=>(.normal,[(0,(.ptr (some (0,0)))),(3,(.ptr (some (1,0))))],[(some (.cells (dF dA) false false)),(some (.cells (bL aR) false false))])
def dR (aR:ak) (dA:aQ):Option (Unit⊕Unit) :=
 cond (decide (aR.Client < 0)) (some (.inl ())) (cond (decide (aR.Client≥4)) (some (.inl ())) (cond (decide (aR.Seq < 1)) (some (.inl ())) ((bW (dA.l.Lb) aR.Client).bind λ(x1:ak)=>cond (decide (aR.Seq≤x1.Seq)) (some (.inl ())) (some (.inr ())))))
theorem qV (d:Nat) {aR:ak} {dA:aQ} {r:Unit⊕Unit} (h:dR aR dA=some r):bX (aU (aG aH (d+0)) KK 38 Zg) 1 (Ar aR dA) (zT aR dA r):=by
 unfold dR at h
 exact bE nB Zh h (.br 8 (λ_=>E0 [4]) λ_=>.br 13 (λ_=>E0 [4]) λ_=>.br 18 (λ_=>E0 [4]) λ_=>.bd λx1 q1=>.v 26 (.ptr (some (0,0+aR.Client.toNat * 4))) <| .ob (ae2 q1 rfl:wP (.tu 4 4 (.c (.ptr (some (0,0)))) (.c (.int .i64 aR.Client)))=some (.ptr (some (0,0+aR.Client.toNat * 4)))) <| .v 28 (.int .i64 x1.Seq) <| .ob (alG (p:=0) (o:=1) bQ q1 rfl rfl:xW false (0+aR.Client.toNat * 4+1) 1 (dF dA)=some (.int .i64 x1.Seq)) <| .br 30 (λ_=>E0 [4]) λ_=>E0 [0,3])
def dx (aR:ak) (dA:aQ):Option (Bool×aQ) :=
 (dR aR dA).bind λ(x2:Unit⊕Unit)=>cond (mW x2) (some (false,dA)) ((bW (dA.l.Lb) aR.Client).bind λ(x4:ak)=>some (true,(⟨(dA.l.set aR.Client aR)⟩:aQ)))
def sV (aR:ak) (dA:aQ) (r:Bool×aQ):AV×WH:=((.bool r.1),[(some (.cells (dF r.2) false false))])
theorem ES (d:Nat) {aR:ak} {dA:aQ} {r:Bool×aQ} (h:dx aR dA=some r):Spec (aG aH (d+1)) 142 [(.ptr (some (0,0))),(.agg (bL aR))] [(some (.cells (dF dA) false false))] (sV aR dA r).1 (sV aR dA r).2:=by
 unfold dx at h
 exact aW nB am2 h (.sk <| .bd λx2 q2=>.ite (λhb3=>Jn [0,3] [none,none] [] [] (nA (il hb3) (qV (d+0) q2)) <| Fn Fo [] none) λhb3=>Jn [0,3] [none,none] [] [] (nA (D_ hb3) (qV (d+0) q2)) <| .bd λx4 q4=>.v 37 (.ptr (some (0,0+aR.Client.toNat * 4))) <| .ob (ae2 q4 rfl:wP (.tu 4 4 (.c (.ptr (some (0,0)))) (.c (.int .i64 aR.Client)))=some (.ptr (some (0,0+aR.Client.toNat * 4)))) <| .st (some (dF (⟨(dA.l.set aR.Client aR)⟩:aQ))) <| .ob (alH (p:=0) (o:=0) bQ q4 (A4.aiG _ q4) rfl (Nat.le_of_ble_eq_true rfl) rfl rfl:Qg (dF dA) (0+aR.Client.toNat * 4) [(.int .i64 aR.Client),(.int .i64 aR.Seq),(.int .i64 aR.Answer.Why),(.str aR.Answer.Value)]=some (dF (⟨(dA.l.set aR.Client aR)⟩:aQ))) <| Fn Fo [] none)
def nD (l:List ak) (s3:Int×aQ):List AV×WH:=([(.ptr (some (0,0))),(.ptr (some (1,0))),(cu l),(.int .i64 (l.length:Int)),(.int .i64 s3.1)],[(some (.cells (dF (⟨(⟨(⟨0,0,(⟨0,([]:List UInt8)⟩:aA)⟩:ak),(⟨0,0,(⟨0,([]:List UInt8)⟩:aA)⟩:ak),(⟨0,0,(⟨0,([]:List UInt8)⟩:aA)⟩:ak),(⟨0,0,(⟨0,([]:List UInt8)⟩:aA)⟩:ak)⟩:A4 ak)⟩:aQ)) false false)),(some (.cells (dF s3.2) false false))])
def qW (l:List ak):aQ→Ex×Fast×WH:=λe=>((.exit 0),[(2,(.ptr (some (0,0)))),(3,(.ptr (some (1,0))))],[(some (.cells (dF (⟨(⟨(⟨0,0,(⟨0,([]:List UInt8)⟩:aA)⟩:ak),(⟨0,0,(⟨0,([]:List UInt8)⟩:aA)⟩:ak),(⟨0,0,(⟨0,([]:List UInt8)⟩:aA)⟩:ak),(⟨0,0,(⟨0,([]:List UInt8)⟩:aA)⟩:ak)⟩:A4 ak)⟩:aQ)) false false)),(some (.cells (dF e) false false))])
abbrev J8 (l:List ak):=eY [2,3,6,7,8] (nD l) (qW l)
def gW (l:List ak) (s3:Int×aQ):Option ((Int×aQ)⊕(aQ)) :=
 cond (decide (s3.1 < (l.length:Int))) ((bW l s3.1).bind λ(x4:ak)=>(dx x4 s3.2).bind λ(x5:Bool×aQ)=>some (.inl ((IntKind.i64.wrap (s3.1+1)),x5.2))) (some (.inr s3.2))
def sG (l:List ak) (s3:Int×aQ):Option (aQ):=eG (gW l) KK s3
theorem LH (d:Nat) {l:List ak} {s3:Int×aQ} {r:(Int×aQ)⊕(aQ)} (h:gW l s3=some r):bX (aU (aG aH (d+1)) KK 16 Xl) 0 (mQ [2,3,6,7,8] (nD l s3)) (J8 l r):=by
 unfold gW at h
 exact bE nB abm h (.br 9 (λ_=>.bd λx4 q4=>Ix bQ 10 q4 <| .st none <| .bd λx5 q5=>Cl [] Fo [] (ES (d+0) q5) <| E1 [2,3,6,7,8] [none,none,none,none,none] [] [.undef,.undef,.slice none 4 0 0 true,.undef,.undef]) λ_=>E0 [2,3])
theorem LJ (d:Nat) {l:List ak} {s3:Int×aQ} {r:aQ} (h:sG l s3=some r):bX (gq (aU (aG aH (d+1)) KK 16 Xl) [2,3,6,7,8] KK) 0 (mQ [2,3,6,7,8] (nD l s3)) (qW l r) :=
 dL (st:=nD l) (fin:=qW l) (step:=gW l) (λe=>by (intro h;cases h)) (λs x h=>LH d h) KK s3 r h
def kJ (l:List ak):Option (aQ) :=
 (sG l (0,(⟨(⟨(⟨0,0,(⟨0,([]:List UInt8)⟩:aA)⟩:ak),(⟨0,0,(⟨0,([]:List UInt8)⟩:aA)⟩:ak),(⟨0,0,(⟨0,([]:List UInt8)⟩:aA)⟩:ak),(⟨0,0,(⟨0,([]:List UInt8)⟩:aA)⟩:ak)⟩:A4 ak)⟩:aQ))).bind λ(x6:aQ)=>some x6
def Da (l:List ak) (r:aQ):AV×WH:=((.agg (dF r)),[])
theorem Qy (d:Nat) {l:List ak} {r:aQ} (h:kJ l=some r):Spec (aG aH (d+2)) 136 [(cu l)] [] (Da l r).1 (Da l r).2:=by
 unfold kJ at h
 exact aW nB amX h (.bd λx6 q6=>Lp [none,none,none,none,none] [] [.undef,.undef,.slice none 4 0 0 true,.undef,.undef] (LJ (d+0) q6) <| .st none <| Fn Fo [] none)
def I8 (aR:aD):Option (bY) :=
 (I7 aR.Pairs).bind λ(x1:nW)=>(kJ aR.gB).bind λ(x2:aQ)=>some (⟨x1,x2,aR.fB,aR.Epoch⟩:bY)
def Nj (aR:aD) (r:bY):AV×WH:=((.agg (kI r)),[])
theorem abz (d:Nat) {aR:aD} {r:bY} (h:I8 aR=some r):Spec (aG aH (d+8)) 116 [(.agg (cO aR))] [] (Nj aR r).1 (Nj aR r).2:=by
 unfold I8 at h
 exact aW nB amI h (.z 2 [.slice none 2 0 0 true,.undef,.undef,.undef,.undef,.undef,.undef,.undef,.undef,.undef,.undef,.undef,.undef,.undef,.undef,.undef,.undef,.undef,.undef] <| .bd λx1 q1=>Cl [] Fo [.slice none 2 0 0 true] (aby (d+0) q1) <| .er <| .ob (rfl:@Eq (Option AV) (some (cu aR.gB)) (some (cu aR.gB))) <| .bd λx2 q2=>Cb [.slice none 4 0 0 true] (Qy (d+5) q2) <| .st none <| Fn Fo [.agg [.slice none 2 0 0 true,.undef,.undef,.undef,.undef,.undef,.undef,.undef,.undef,.undef,.undef,.undef,.undef,.undef,.undef,.undef,.undef,.undef,.undef]] none)
def qp (t:bY):Option (List au) :=
 gd (dB 32 t.Table.l.length) (some t.Table.l)
def yc (t:bY) (r:List au):AV×WH:=((bK r),[(some (.cells (kI t) false false))])
theorem J9 (d:Nat) {t:bY} {r:List au} (h:qp t=some r):Spec (aG aH (d+2)) 117 [(.ptr (some (0,0)))] [(some (.cells (kI t) false false))] (yc t r).1 (yc t r).2:=by
 unfold qp at h
 exact aW (Gj _) amJ h (.z 2 [.slice none 2 0 0 true] <| .gd λq1=>.ob q1 <| Fn Fo [.slice none 2 0 0 true] none)
def fU (a0:List au) (a1:List au) (s3:Int):List AV×WH:=([(bK a0),(bK a1),(.int .i64 (a0.length:Int)),(.int .i64 s3)],[])
def g_ (a0:List au) (a1:List au):Unit⊕Unit→Ex×Fast×WH:=fun
 | .inl e=>(.ret,[(4,(.bool false))],[])
 | .inr e=>((.exit 0),[],[])
abbrev tK (a0:List au) (a1:List au):=eY [0,1,12,13] (fU a0 a1) (g_ a0 a1)
def eP (a0:List au) (a1:List au) (s3:Int):Option ((Int)⊕(Unit⊕Unit)) :=
 cond (decide (s3 < (a0.length:Int))) ((bW a0 s3).bind λ(x4:au)=>(bW a1 s3).bind λ(x5:au)=>cond (!(x4.Key==x5.Key&&(x4.Value==x5.Value&&true))) (some (.inr (.inl ()))) (some (.inl (IntKind.i64.wrap (s3+1))))) (some (.inr (.inr ())))
def iN (a0:List au) (a1:List au) (s3:Int):Option (Unit⊕Unit):=eG (eP a0 a1) KK s3
theorem uy (d:Nat) {a0:List au} {a1:List au} {s3:Int} {r:(Int)⊕(Unit⊕Unit)} (h:eP a0 a1 s3=some r):bX (aU (aG aH (d+0)) KK 26 aa9) 0 (mQ [0,1,12,13] (fU a0 a1 s3)) (tK a0 a1 r):=by
 unfold eP at h
 exact bE nB adH h (.br 14 (λ_=>.bd λx4 q4=>Ix aJ 18 q4 <| .bd λx5 q5=>Ix aJ 22 q5 <| .br 24 (λ_=>E0 [4]) λ_=>E1 [0,1,12,13] [none,none,none,none] [] [.slice none 2 0 0 true,.slice none 2 0 0 true,.undef,.undef]) λ_=>E0 [])
theorem kK (d:Nat) {a0:List au} {a1:List au} {s3:Int} {r:Unit⊕Unit} (h:iN a0 a1 s3=some r):bX (gq (aU (aG aH (d+0)) KK 26 aa9) [0,1,12,13] KK) 0 (mQ [0,1,12,13] (fU a0 a1 s3)) (g_ a0 a1 r) :=
 dL (st:=fU a0 a1) (fin:=g_ a0 a1) (step:=eP a0 a1) (λe=>by rcases e with e | e<;>(intro h;cases h)) (λs x h=>uy d h) KK s3 r h
def fq (a0:List au) (a1:List au):Option (Bool) :=
 cond ((a0.length:Int) != (a1.length:Int)) (some false) ((iN a0 a1 0).bind λ(x6:Unit⊕Unit)=>cond (mW x6) (some false) (some true))
def kY (a0:List au) (a1:List au) (r:Bool):AV×WH:=((.bool r),[])
theorem mG (d:Nat) {a0:List au} {a1:List au} {r:Bool} (h:fq a0 a1=some r):Spec (aG aH (d+1)) 96 [(bK a0),(bK a1)] [] (kY a0 a1 r).1 (kY a0 a1 r).2:=by
 unfold fq at h
 exact aW nB aow h (.br 10 (λ_=>Fn Fo [] none) λ_=>.bd λx6 q6=>.ite (λzO=>Lp [none,none,none,none] [] [.slice none 2 0 0 true,.slice none 2 0 0 true,.undef,.undef] (nA (il zO) (kK (d+0) q6)) <| Fn Fo [] none) λzO=>Lp [none,none,none,none] [] [.slice none 2 0 0 true,.slice none 2 0 0 true,.undef,.undef] (nA (D_ zO) (kK (d+0) q6)) <| Fn Fo [] none)
end Go.Proofs.YtohoggieaanllaaGreat
