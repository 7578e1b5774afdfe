import Derived.Test.YtohoggieaanllaaGreatXt
import Derived.Test.YtohoggieaanllaaGreatXs
import Derived.Test.YtohoggieaanllaaGreatY2
set_option linter.all false
set_option maxRecDepth 100000
namespace Go.Proofs.YtohoggieaanllaaGreat
abbrev ZV (cu:bn) (aS:bf) (hosts:Int) (x1:Int) (x2:Int) (x3:Int) (x4:Int) (x5:Int) (x6:Int) (x7:Int) (x8:Int) (x9:Int) (x10:List UInt8) (dV:List av):Fast×WH:=([(1,(.int .i64 hosts)),(2,(.ptr (some (0,0)))),(4,(.ptr (some (1,0)))),(5,(.ptr (some (2,0))))],[(some (.cells (dM aS) false false)),(some (.cells [(.int .i64 0),(.int .i64 0),(.int .i64 0),(.int .i64 0),(.int .i64 0),(.int .i64 0),(.int .i64 0),(.int .i64 0),(.bool false),(.int .i64 0),(.int .i64 0),(.int .i64 0),(.str ([]:List UInt8)),(.str ([]:List UInt8)),(.str ([]:List UInt8)),(.int .i64 0),(.str ([]:List UInt8)),(.slice none 1 0 0 true),(.slice none 5 0 0 true),(.int .i64 0),(.int .i64 0),(.slice none 2 0 0 true),(.slice none 4 0 0 true)] false false)),(some (.cells [(.int .i64 (IntKind.i64.wrap (1+x1))),(.int .i64 x2),(.int .i64 x3),(.int .i64 x4),(.int .i64 x5),(.int .i64 x6),(.int .i64 x7),(.int .i64 x8),(.bool aS.dR),(.int .i64 cu.Client),(.int .i64 cu.Seq),(.int .i64 cu.Op.Kind),(.str cu.Op.Key),(.str cu.Op.Value),(.str cu.Op.Old),(.int .i64 x9),(.str x10),(.slice none 1 0 0 true),(.acc 3 0 5 dV.length true),(.int .i64 0),(.int .i64 0),(.slice none 2 0 0 true),(.slice none 4 0 0 true)] false false)),(some (.cells (bH dV) false true))])
def XK (cu:bn) (aS:bf) (hosts:Int) (x1:Int) (x2:Int) (x3:Int) (x4:Int) (x5:Int) (x6:Int) (x7:Int) (x8:Int) (x9:Int) (x10:List UInt8) (dV:List av):(Int×Int×Int×List UInt8×List UInt8×List UInt8)→Ex×Fast×WH:=λe=>(.normal,[(1,(.int .i64 hosts)),(2,(.ptr (some (0,0)))),(4,(.ptr (some (1,0)))),(5,(.ptr (some (2,0))))],[(some (.cells (dM aS) false false)),(some (.cells [(.int .i64 0),(.int .i64 0),(.int .i64 0),(.int .i64 0),(.int .i64 0),(.int .i64 0),(.int .i64 0),(.int .i64 0),(.bool false),(.int .i64 0),(.int .i64 0),(.int .i64 0),(.str ([]:List UInt8)),(.str ([]:List UInt8)),(.str ([]:List UInt8)),(.int .i64 0),(.str ([]:List UInt8)),(.slice none 1 0 0 true),(.slice none 5 0 0 true),(.int .i64 0),(.int .i64 0),(.slice none 2 0 0 true),(.slice none 4 0 0 true)] false false)),(some (.cells [(.int .i64 (IntKind.i64.wrap (1+x1))),(.int .i64 x2),(.int .i64 x3),(.int .i64 x4),(.int .i64 x5),(.int .i64 x6),(.int .i64 x7),(.int .i64 x8),(.bool aS.dR),(.int .i64 e.1),(.int .i64 e.2.1),(.int .i64 e.2.2.1),(.str e.2.2.2.1),(.str e.2.2.2.2.1),(.str e.2.2.2.2.2),(.int .i64 x9),(.str x10),(.slice none 1 0 0 true),(.acc 3 0 5 dV.length true),(.int .i64 0),(.int .i64 0),(.slice none 2 0 0 true),(.slice none 4 0 0 true)] false false)),(some (.cells (bH dV) false true))])
def Od (cu:bn) (aS:bf) (hosts:Int) (x1:Int) (x2:Int) (x3:Int) (x4:Int) (x5:Int) (x6:Int) (x7:Int) (x8:Int) (x9:Int) (x10:List UInt8) (dV:List av):Option ((Int×Int×Int×List UInt8×List UInt8×List UInt8)) :=
 (qL cu).bind λ(qJ:Bool)=>cond (!qJ) ((bE aS.sH 5).bind λ(lH:Int)=>cond (decide (lH < 4)) (some (0,0,0,([]:List UInt8),([]:List UInt8),([]:List UInt8))) (some (cu.Client,cu.Seq,cu.Op.Kind,cu.Op.Key,cu.Op.Value,cu.Op.Old))) (some (cu.Client,cu.Seq,cu.Op.Kind,cu.Op.Key,cu.Op.Value,cu.Op.Old))
theorem abv (d:Nat) {cu:bn} {aS:bf} {hosts:Int} {x1:Int} {x2:Int} {x3:Int} {x4:Int} {x5:Int} {x6:Int} {x7:Int} {x8:Int} {x9:Int} {x10:List UInt8} {dV:List av} {r:(Int×Int×Int×List UInt8×List UInt8×List UInt8)} (h:Od cu aS hosts x1 x2 x3 x4 x5 x6 x7 x8 x9 x10 dV=some r):bJ (aU (aB aH (d+3)) KK 154 Zi) 0 (ZV cu aS hosts x1 x2 x3 x4 x5 x6 x7 x8 x9 x10 dV) (XK cu aS hosts x1 x2 x3 x4 x5 x6 x7 x8 x9 x10 dV r):=by
 unfold Od at h
 exact bA nB WL h (.bd λqJ XA=>iA (C_ (d+0) XA) <| .br 55 (λ_=>.bd λlH LW=>iA (bF (d+2) LW) <| .br 60 (λ_=>.st none <| E0 [1,2,4,5]) λ_=>E0 [1,2,4,5]) λ_=>E0 [1,2,4,5])
abbrev ZW (uq:Int×List Int) (aS:bf) (hosts:Int) (x1:Int) (x2:Int) (x3:Int) (x4:Int) (x5:Int) (x6:Int) (x7:Int) (x8:Int) (bR:(Int×Int×Int×List UInt8×List UInt8×List UInt8)) (x9:Int) (x10:List UInt8) (dV:List av):Fast×WH:=([(1,(.int .i64 hosts)),(2,(.ptr (some (0,0)))),(4,(.ptr (some (1,0)))),(5,(.ptr (some (2,0)))),(6,(.int .i64 uq.1))],[(some (.cells (dM aS) false false)),(some (.cells [(.int .i64 0),(.int .i64 0),(.int .i64 0),(.int .i64 0),(.int .i64 0),(.int .i64 0),(.int .i64 0),(.int .i64 0),(.bool false),(.int .i64 0),(.int .i64 0),(.int .i64 0),(.str ([]:List UInt8)),(.str ([]:List UInt8)),(.str ([]:List UInt8)),(.int .i64 0),(.str ([]:List UInt8)),(.acc 3 0 1 0 true),(.acc 4 0 5 0 true),(.int .i64 0),(.int .i64 0),(.acc 5 0 2 0 true),(.acc 6 0 4 0 true)] false false)),(some (.cells [(.int .i64 (IntKind.i64.wrap (1+x1))),(.int .i64 x2),(.int .i64 x3),(.int .i64 x4),(.int .i64 x5),(.int .i64 x6),(.int .i64 x7),(.int .i64 x8),(.bool aS.dR),(.int .i64 bR.1),(.int .i64 bR.2.1),(.int .i64 bR.2.2.1),(.str bR.2.2.2.1),(.str bR.2.2.2.2.1),(.str bR.2.2.2.2.2),(.int .i64 x9),(.str x10),(.acc 7 0 1 uq.2.length true),(.acc 8 0 5 dV.length true),(.int .i64 0),(.int .i64 0),(.acc 9 0 2 0 true),(.acc 10 0 4 0 true)] false false)),(some (.cells (DU []) false true)),(some (.cells (bH []) false true)),(some (.cells (aC []) false true)),(some (.cells (aO []) false true)),(some (.cells (DU uq.2) false true)),(some (.cells (bH dV) false true)),(some (.cells (aC []) false true)),(some (.cells (aO []) false true))])
def XL (uq:Int×List Int) (aS:bf) (hosts:Int) (x1:Int) (x2:Int) (x3:Int) (x4:Int) (x5:Int) (x6:Int) (x7:Int) (x8:Int) (bR:(Int×Int×Int×List UInt8×List UInt8×List UInt8)) (x9:Int) (x10:List UInt8) (dV:List av):Unit⊕Unit→Ex×Fast×WH:=fun
 | .inl e=>(.normal,[(1,(.int .i64 hosts)),(2,(.ptr (some (0,0)))),(4,(.ptr (some (1,0)))),(5,(.ptr (some (2,0)))),(6,(.int .i64 uq.1))],[(some (.cells (dM aS) false false)),(some (.cells [(.int .i64 0),(.int .i64 0),(.int .i64 0),(.int .i64 0),(.int .i64 0),(.int .i64 0),(.int .i64 0),(.int .i64 0),(.bool false),(.int .i64 0),(.int .i64 0),(.int .i64 0),(.str ([]:List UInt8)),(.str ([]:List UInt8)),(.str ([]:List UInt8)),(.int .i64 0),(.str ([]:List UInt8)),(.acc 3 0 1 0 true),(.acc 4 0 5 0 true),(.int .i64 0),(.int .i64 0),(.acc 5 0 2 0 true),(.acc 6 0 4 0 true)] false false)),(some (.cells [(.int .i64 (IntKind.i64.wrap (1+x1))),(.int .i64 x2),(.int .i64 x3),(.int .i64 x4),(.int .i64 x5),(.int .i64 x6),(.int .i64 x7),(.int .i64 x8),(.bool aS.dR),(.int .i64 bR.1),(.int .i64 bR.2.1),(.int .i64 bR.2.2.1),(.str bR.2.2.2.1),(.str bR.2.2.2.2.1),(.str bR.2.2.2.2.2),(.int .i64 x9),(.str x10),(.acc 7 0 1 uq.2.length true),(.acc 8 0 5 dV.length true),(.int .i64 0),(.int .i64 0),(.acc 9 0 2 0 true),(.acc 10 0 4 0 true)] false false)),(some (.cells (DU []) false true)),(some (.cells (bH []) false true)),(some (.cells (aC []) false true)),(some (.cells (aO []) false true)),(some (.cells (DU uq.2) false true)),(some (.cells (bH dV) false true)),(some (.cells (aC []) false true)),(some (.cells (aO []) false true))])
 | .inr e=>((.exit 0),[(2,(.ptr (some (0,0)))),(4,(.ptr (some (1,0)))),(5,(.ptr (some (2,0))))],[(some (.cells (dM aS) false false)),(some (.cells [(.int .i64 0),(.int .i64 0),(.int .i64 0),(.int .i64 0),(.int .i64 0),(.int .i64 0),(.int .i64 0),(.int .i64 0),(.bool false),(.int .i64 0),(.int .i64 0),(.int .i64 0),(.str ([]:List UInt8)),(.str ([]:List UInt8)),(.str ([]:List UInt8)),(.int .i64 0),(.str ([]:List UInt8)),(.acc 3 0 1 0 true),(.acc 4 0 5 0 true),(.int .i64 0),(.int .i64 0),(.acc 5 0 2 0 true),(.acc 6 0 4 0 true)] false false)),(some (.cells [(.int .i64 (IntKind.i64.wrap (1+x1))),(.int .i64 x2),(.int .i64 x3),(.int .i64 x4),(.int .i64 x5),(.int .i64 x6),(.int .i64 x7),(.int .i64 x8),(.bool aS.dR),(.int .i64 bR.1),(.int .i64 bR.2.1),(.int .i64 bR.2.2.1),(.str bR.2.2.2.1),(.str bR.2.2.2.2.1),(.str bR.2.2.2.2.2),(.int .i64 x9),(.str x10),(.acc 7 0 1 uq.2.length true),(.acc 8 0 5 dV.length true),(.int .i64 0),(.int .i64 0),(.acc 9 0 2 0 true),(.acc 10 0 4 0 true)] false false)),(some (.cells (DU []) false true)),(some (.cells (bH []) false true)),(some (.cells (aC []) false true)),(some (.cells (aO []) false true)),(some (.cells (DU uq.2) false true)),(some (.cells (bH dV) false true)),(some (.cells (aC []) false true)),(some (.cells (aO []) false true))])
def Oe (uq:Int×List Int) (aS:bf) (hosts:Int) (x1:Int) (x2:Int) (x3:Int) (x4:Int) (x5:Int) (x6:Int) (x7:Int) (x8:Int) (bR:(Int×Int×Int×List UInt8×List UInt8×List UInt8)) (x9:Int) (x10:List UInt8) (dV:List av):Option (Unit⊕Unit) :=
 cond (decide (uq.1 < (aS.Path.length:Int))) (cond (decide (uq.1 < 5)) (some (.inl ())) (some (.inr ()))) (some (.inr ()))
theorem QJ (d:Nat) {uq:Int×List Int} {aS:bf} {hosts:Int} {x1:Int} {x2:Int} {x3:Int} {x4:Int} {x5:Int} {x6:Int} {x7:Int} {x8:Int} {bR:(Int×Int×Int×List UInt8×List UInt8×List UInt8)} {x9:Int} {x10:List UInt8} {dV:List av} {r:Unit⊕Unit} (h:Oe uq aS hosts x1 x2 x3 x4 x5 x6 x7 x8 bR x9 x10 dV=some r):bJ (aU (aB aH (d+0)) KK 154 IL) 0 (ZW uq aS hosts x1 x2 x3 x4 x5 x6 x7 x8 bR x9 x10 dV) (XL uq aS hosts x1 x2 x3 x4 x5 x6 x7 x8 bR x9 x10 dV r):=by
 unfold Oe at h
 exact bA nB JG h (.br 68 (λ_=>.br 71 (λ_=>E0 [1,2,4,5,6]) λ_=>E0 [2,4,5]) λ_=>E0 [2,4,5])
def Ao (aS:bf) (hosts:Int) (x1:Int) (x2:Int) (x3:Int) (x4:Int) (x5:Int) (x6:Int) (x7:Int) (x8:Int) (bR:(Int×Int×Int×List UInt8×List UInt8×List UInt8)) (x9:Int) (x10:List UInt8) (dV:List av) (uq:Int×List Int):List AV×WH:=([(.int .i64 hosts),(.ptr (some (0,0))),(.ptr (some (1,0))),(.ptr (some (2,0))),(.int .i64 uq.1)],[(some (.cells (dM aS) false false)),(some (.cells [(.int .i64 0),(.int .i64 0),(.int .i64 0),(.int .i64 0),(.int .i64 0),(.int .i64 0),(.int .i64 0),(.int .i64 0),(.bool false),(.int .i64 0),(.int .i64 0),(.int .i64 0),(.str ([]:List UInt8)),(.str ([]:List UInt8)),(.str ([]:List UInt8)),(.int .i64 0),(.str ([]:List UInt8)),(.acc 3 0 1 0 true),(.acc 4 0 5 0 true),(.int .i64 0),(.int .i64 0),(.acc 5 0 2 0 true),(.acc 6 0 4 0 true)] false false)),(some (.cells [(.int .i64 (IntKind.i64.wrap (1+x1))),(.int .i64 x2),(.int .i64 x3),(.int .i64 x4),(.int .i64 x5),(.int .i64 x6),(.int .i64 x7),(.int .i64 x8),(.bool aS.dR),(.int .i64 bR.1),(.int .i64 bR.2.1),(.int .i64 bR.2.2.1),(.str bR.2.2.2.1),(.str bR.2.2.2.2.1),(.str bR.2.2.2.2.2),(.int .i64 x9),(.str x10),(.acc 7 0 1 uq.2.length true),(.acc 8 0 5 dV.length true),(.int .i64 0),(.int .i64 0),(.acc 9 0 2 0 true),(.acc 10 0 4 0 true)] false false)),(some (.cells (DU []) false true)),(some (.cells (bH []) false true)),(some (.cells (aC []) false true)),(some (.cells (aO []) false true)),(some (.cells (DU uq.2) false true)),(some (.cells (bH dV) false true)),(some (.cells (aC []) false true)),(some (.cells (aO []) false true))])
def DY (aS:bf) (hosts:Int) (x1:Int) (x2:Int) (x3:Int) (x4:Int) (x5:Int) (x6:Int) (x7:Int) (x8:Int) (bR:(Int×Int×Int×List UInt8×List UInt8×List UInt8)) (x9:Int) (x10:List UInt8) (dV:List av):(List Int)→Ex×Fast×WH:=λe=>((.exit 0),[(2,(.ptr (some (0,0)))),(4,(.ptr (some (1,0)))),(5,(.ptr (some (2,0))))],[(some (.cells (dM aS) false false)),(some (.cells [(.int .i64 0),(.int .i64 0),(.int .i64 0),(.int .i64 0),(.int .i64 0),(.int .i64 0),(.int .i64 0),(.int .i64 0),(.bool false),(.int .i64 0),(.int .i64 0),(.int .i64 0),(.str ([]:List UInt8)),(.str ([]:List UInt8)),(.str ([]:List UInt8)),(.int .i64 0),(.str ([]:List UInt8)),(.acc 3 0 1 0 true),(.acc 4 0 5 0 true),(.int .i64 0),(.int .i64 0),(.acc 5 0 2 0 true),(.acc 6 0 4 0 true)] false false)),(some (.cells [(.int .i64 (IntKind.i64.wrap (1+x1))),(.int .i64 x2),(.int .i64 x3),(.int .i64 x4),(.int .i64 x5),(.int .i64 x6),(.int .i64 x7),(.int .i64 x8),(.bool aS.dR),(.int .i64 bR.1),(.int .i64 bR.2.1),(.int .i64 bR.2.2.1),(.str bR.2.2.2.1),(.str bR.2.2.2.2.1),(.str bR.2.2.2.2.2),(.int .i64 x9),(.str x10),(.acc 7 0 1 e.length true),(.acc 8 0 5 dV.length true),(.int .i64 0),(.int .i64 0),(.acc 9 0 2 0 true),(.acc 10 0 4 0 true)] false false)),(some (.cells (DU []) false true)),(some (.cells (bH []) false true)),(some (.cells (aC []) false true)),(some (.cells (aO []) false true)),(some (.cells (DU e) false true)),(some (.cells (bH dV) false true)),(some (.cells (aC []) false true)),(some (.cells (aO []) false true))])
abbrev ZX (aS:bf) (hosts:Int) (x1:Int) (x2:Int) (x3:Int) (x4:Int) (x5:Int) (x6:Int) (x7:Int) (x8:Int) (bR:(Int×Int×Int×List UInt8×List UInt8×List UInt8)) (x9:Int) (x10:List UInt8) (dV:List av):=dx [1,2,4,5,6] (Ao aS hosts x1 x2 x3 x4 x5 x6 x7 x8 bR x9 x10 dV) (DY aS hosts x1 x2 x3 x4 x5 x6 x7 x8 bR x9 x10 dV)
def Cv (aS:bf) (hosts:Int) (x1:Int) (x2:Int) (x3:Int) (x4:Int) (x5:Int) (x6:Int) (x7:Int) (x8:Int) (bR:(Int×Int×Int×List UInt8×List UInt8×List UInt8)) (x9:Int) (x10:List UInt8) (dV:List av) (uq:Int×List Int):Option ((Int×List Int)⊕((List Int))) :=
 (Oe uq aS hosts x1 x2 x3 x4 x5 x6 x7 x8 bR x9 x10 dV).bind λ(x27:Unit⊕Unit)=>cond (jI x27) ((bO aS.Path uq.1).bind λ(x29:Int)=>(bE x29 hosts).bind λ(x30:Int)=>gd (dh 8 (uq.2++[x30]).length) (some (.inl ((IntKind.i64.wrap (uq.1+1)),(uq.2++[x30]))))) (some (.inr uq.2))
def WX (aS:bf) (hosts:Int) (x1:Int) (x2:Int) (x3:Int) (x4:Int) (x5:Int) (x6:Int) (x7:Int) (x8:Int) (bR:(Int×Int×Int×List UInt8×List UInt8×List UInt8)) (x9:Int) (x10:List UInt8) (dV:List av) (uq:Int×List Int):Option ((List Int)):=bT (Cv aS hosts x1 x2 x3 x4 x5 x6 x7 x8 bR x9 x10 dV) KK uq
theorem abw (d:Nat) {aS:bf} {hosts:Int} {x1:Int} {x2:Int} {x3:Int} {x4:Int} {x5:Int} {x6:Int} {x7:Int} {x8:Int} {bR:(Int×Int×Int×List UInt8×List UInt8×List UInt8)} {x9:Int} {x10:List UInt8} {dV:List av} {uq:Int×List Int} {r:(Int×List Int)⊕((List Int))} (h:Cv aS hosts x1 x2 x3 x4 x5 x6 x7 x8 bR x9 x10 dV uq=some r):bJ (aU (aB aH (d+1)) KK 154 afR) 0 (jg [1,2,4,5,6] (Ao aS hosts x1 x2 x3 x4 x5 x6 x7 x8 bR x9 x10 dV uq)) (ZX aS hosts x1 x2 x3 x4 x5 x6 x7 x8 bR x9 x10 dV r):=by
 unfold Cv at h
 exact bA nB afS h (.bd λx27 q27=>.ite (λaje=>Jn [1,2,4,5,6] [none,none,none,none,none] [] [] (jA (il aje) (QJ (d+1) q27)) <| .bd λx29 q29=>Ix Jp 79 q29 <| .bd λx30 q30=>iA (bF (d+0) q30) <| .gd λq31=>Ap Jp 84 q31 <| .st none <| E0 [1,2,4,5,6]) λaje=>Jn [1,2,4,5,6] [none,none,none,none,none] [] [] (jA (zy aje) (QJ (d+1) q27)) <| E0 [2,4,5])
theorem abx (d:Nat) {aS:bf} {hosts:Int} {x1:Int} {x2:Int} {x3:Int} {x4:Int} {x5:Int} {x6:Int} {x7:Int} {x8:Int} {bR:(Int×Int×Int×List UInt8×List UInt8×List UInt8)} {x9:Int} {x10:List UInt8} {dV:List av} {uq:Int×List Int} {r:(List Int)} (h:WX aS hosts x1 x2 x3 x4 x5 x6 x7 x8 bR x9 x10 dV uq=some r):bJ (eu (aU (aB aH (d+1)) KK 154 afR) [1,2,4,5,6] KK) 0 (jg [1,2,4,5,6] (Ao aS hosts x1 x2 x3 x4 x5 x6 x7 x8 bR x9 x10 dV uq)) (DY aS hosts x1 x2 x3 x4 x5 x6 x7 x8 bR x9 x10 dV r) :=
 bY (st:=Ao aS hosts x1 x2 x3 x4 x5 x6 x7 x8 bR x9 x10 dV) (fin:=DY aS hosts x1 x2 x3 x4 x5 x6 x7 x8 bR x9 x10 dV) (step:=Cv aS hosts x1 x2 x3 x4 x5 x6 x7 x8 bR x9 x10 dV) (λe=>by (intro h;cases h)) (λs x h=>abw d h) KK uq r h
abbrev ZY (x1:Int) (aS:bf) (x2:Int) (x3:Int) (x4:Int) (x5:Int) (x6:Int) (x7:Int) (x8:Int) (bR:(Int×Int×Int×List UInt8×List UInt8×List UInt8)) (x9:Int) (x10:List UInt8) (x32:(List Int)) (dV:List av):Fast×WH:=([(2,(.ptr (some (0,0)))),(4,(.ptr (some (1,0)))),(5,(.ptr (some (2,0))))],[(some (.cells (dM aS) false false)),(some (.cells [(.int .i64 0),(.int .i64 0),(.int .i64 0),(.int .i64 0),(.int .i64 0),(.int .i64 0),(.int .i64 0),(.int .i64 0),(.bool false),(.int .i64 0),(.int .i64 0),(.int .i64 0),(.str ([]:List UInt8)),(.str ([]:List UInt8)),(.str ([]:List UInt8)),(.int .i64 0),(.str ([]:List UInt8)),(.acc 3 0 1 0 true),(.acc 4 0 5 0 true),(.int .i64 0),(.int .i64 0),(.acc 5 0 2 0 true),(.acc 6 0 4 0 true)] false false)),(some (.cells [(.int .i64 (IntKind.i64.wrap (1+x1))),(.int .i64 x2),(.int .i64 x3),(.int .i64 x4),(.int .i64 x5),(.int .i64 x6),(.int .i64 x7),(.int .i64 x8),(.bool aS.dR),(.int .i64 bR.1),(.int .i64 bR.2.1),(.int .i64 bR.2.2.1),(.str bR.2.2.2.1),(.str bR.2.2.2.2.1),(.str bR.2.2.2.2.2),(.int .i64 x9),(.str x10),(.acc 7 0 1 x32.length true),(.acc 8 0 5 dV.length true),(.int .i64 0),(.int .i64 0),(.acc 9 0 2 0 true),(.acc 10 0 4 0 true)] false false)),(some (.cells (DU []) false true)),(some (.cells (bH []) false true)),(some (.cells (aC []) false true)),(some (.cells (aO []) false true)),(some (.cells (DU x32) false true)),(some (.cells (bH dV) false true)),(some (.cells (aC []) false true)),(some (.cells (aO []) false true))])
def XM (x1:Int) (aS:bf) (x2:Int) (x3:Int) (x4:Int) (x5:Int) (x6:Int) (x7:Int) (x8:Int) (bR:(Int×Int×Int×List UInt8×List UInt8×List UInt8)) (x9:Int) (x10:List UInt8) (x32:(List Int)) (dV:List av):Bool→Ex×Fast×WH:=λe=>(.normal,[(2,(.ptr (some (0,0)))),(4,(.ptr (some (1,0)))),(5,(.ptr (some (2,0)))),(94,(.bool e))],[(some (.cells (dM aS) false false)),(some (.cells [(.int .i64 0),(.int .i64 0),(.int .i64 0),(.int .i64 0),(.int .i64 0),(.int .i64 0),(.int .i64 0),(.int .i64 0),(.bool false),(.int .i64 0),(.int .i64 0),(.int .i64 0),(.str ([]:List UInt8)),(.str ([]:List UInt8)),(.str ([]:List UInt8)),(.int .i64 0),(.str ([]:List UInt8)),(.acc 3 0 1 0 true),(.acc 4 0 5 0 true),(.int .i64 0),(.int .i64 0),(.acc 5 0 2 0 true),(.acc 6 0 4 0 true)] false false)),(some (.cells [(.int .i64 (IntKind.i64.wrap (1+x1))),(.int .i64 x2),(.int .i64 x3),(.int .i64 x4),(.int .i64 x5),(.int .i64 x6),(.int .i64 x7),(.int .i64 x8),(.bool aS.dR),(.int .i64 bR.1),(.int .i64 bR.2.1),(.int .i64 bR.2.2.1),(.str bR.2.2.2.1),(.str bR.2.2.2.2.1),(.str bR.2.2.2.2.2),(.int .i64 x9),(.str x10),(.acc 7 0 1 x32.length true),(.acc 8 0 5 dV.length true),(.int .i64 0),(.int .i64 0),(.acc 9 0 2 0 true),(.acc 10 0 4 0 true)] false false)),(some (.cells (DU []) false true)),(some (.cells (bH []) false true)),(some (.cells (aC []) false true)),(some (.cells (aO []) false true)),(some (.cells (DU x32) false true)),(some (.cells (bH dV) false true)),(some (.cells (aC []) false true)),(some (.cells (aO []) false true))])
def Og (x1:Int) (aS:bf) (x2:Int) (x3:Int) (x4:Int) (x5:Int) (x6:Int) (x7:Int) (x8:Int) (bR:(Int×Int×Int×List UInt8×List UInt8×List UInt8)) (x9:Int) (x10:List UInt8) (x32:(List Int)) (dV:List av):Option (Bool) :=
 cond ((IntKind.i64.wrap (1+x1))==6) (some true) ((bE aS.sH 4).bind λ(x33:Int)=>some (x33==1))
theorem aby (d:Nat) {x1:Int} {aS:bf} {x2:Int} {x3:Int} {x4:Int} {x5:Int} {x6:Int} {x7:Int} {x8:Int} {bR:(Int×Int×Int×List UInt8×List UInt8×List UInt8)} {x9:Int} {x10:List UInt8} {x32:(List Int)} {dV:List av} {r:Bool} (h:Og x1 aS x2 x3 x4 x5 x6 x7 x8 bR x9 x10 x32 dV=some r):bJ (aU (aB aH (d+1)) KK 154 NA) 0 (ZY x1 aS x2 x3 x4 x5 x6 x7 x8 bR x9 x10 x32 dV) (XM x1 aS x2 x3 x4 x5 x6 x7 x8 bR x9 x10 x32 dV r):=by
 unfold Og at h
 exact bA nB NC h (.br 89 (λ_=>E0 [2,4,5,94]) λ_=>.bd λx33 q33=>iA (bF (d+0) q33) <| E0 [2,4,5,94])
abbrev Z0 (x1:Int) (aS:bf) (x2:Int) (x3:Int) (x4:Int) (x5:Int) (x6:Int) (x7:Int) (x8:Int) (bR:(Int×Int×Int×List UInt8×List UInt8×List UInt8)) (x9:Int) (x10:List UInt8) (x32:(List Int)) (dV:List av):Fast×WH:=([(2,(.ptr (some (0,0)))),(4,(.ptr (some (1,0)))),(5,(.ptr (some (2,0))))],[(some (.cells (dM aS) false false)),(some (.cells [(.int .i64 0),(.int .i64 0),(.int .i64 0),(.int .i64 0),(.int .i64 0),(.int .i64 0),(.int .i64 0),(.int .i64 0),(.bool false),(.int .i64 0),(.int .i64 0),(.int .i64 0),(.str ([]:List UInt8)),(.str ([]:List UInt8)),(.str ([]:List UInt8)),(.int .i64 0),(.str ([]:List UInt8)),(.acc 3 0 1 0 true),(.acc 4 0 5 0 true),(.int .i64 0),(.int .i64 0),(.acc 5 0 2 0 true),(.acc 6 0 4 0 true)] false false)),(some (.cells [(.int .i64 (IntKind.i64.wrap (1+x1))),(.int .i64 x2),(.int .i64 x3),(.int .i64 x4),(.int .i64 x5),(.int .i64 x6),(.int .i64 x7),(.int .i64 x8),(.bool aS.dR),(.int .i64 bR.1),(.int .i64 bR.2.1),(.int .i64 bR.2.2.1),(.str bR.2.2.2.1),(.str bR.2.2.2.2.1),(.str bR.2.2.2.2.2),(.int .i64 x9),(.str x10),(.acc 7 0 1 x32.length true),(.acc 8 0 5 dV.length true),(.int .i64 0),(.int .i64 0),(.acc 9 0 2 0 true),(.acc 10 0 4 0 true)] false false)),(some (.cells (DU []) false true)),(some (.cells (bH []) false true)),(some (.cells (aC []) false true)),(some (.cells (aO []) false true)),(some (.cells (DU x32) false true)),(some (.cells (bH dV) false true)),(some (.cells (aC []) false true)),(some (.cells (aO []) false true))])
def XO (x1:Int) (aS:bf) (x2:Int) (x3:Int) (x4:Int) (x5:Int) (x6:Int) (x7:Int) (x8:Int) (bR:(Int×Int×Int×List UInt8×List UInt8×List UInt8)) (x9:Int) (x10:List UInt8) (x32:(List Int)) (dV:List av):(Int×Int×List au×List ak)→Ex×Fast×WH:=λe=>(.normal,[(2,(.ptr (some (0,0)))),(4,(.ptr (some (1,0)))),(5,(.ptr (some (2,0))))],[(some (.cells (dM aS) false false)),(some (.cells [(.int .i64 0),(.int .i64 0),(.int .i64 0),(.int .i64 0),(.int .i64 0),(.int .i64 0),(.int .i64 0),(.int .i64 0),(.bool false),(.int .i64 0),(.int .i64 0),(.int .i64 0),(.str ([]:List UInt8)),(.str ([]:List UInt8)),(.str ([]:List UInt8)),(.int .i64 0),(.str ([]:List UInt8)),(.acc 3 0 1 0 true),(.acc 4 0 5 0 true),(.int .i64 0),(.int .i64 0),(.acc 5 0 2 0 true),(.acc 6 0 4 0 true)] false false)),(some (.cells [(.int .i64 (IntKind.i64.wrap (1+x1))),(.int .i64 x2),(.int .i64 x3),(.int .i64 x4),(.int .i64 x5),(.int .i64 x6),(.int .i64 x7),(.int .i64 x8),(.bool aS.dR),(.int .i64 bR.1),(.int .i64 bR.2.1),(.int .i64 bR.2.2.1),(.str bR.2.2.2.1),(.str bR.2.2.2.2.1),(.str bR.2.2.2.2.2),(.int .i64 x9),(.str x10),(.acc 7 0 1 x32.length true),(.acc 8 0 5 dV.length true),(.int .i64 e.1),(.int .i64 e.2.1),(.acc 9 0 2 e.2.2.1.length true),(.acc 10 0 4 e.2.2.2.length true)] false false)),(some (.cells (DU []) false true)),(some (.cells (bH []) false true)),(some (.cells (aC []) false true)),(some (.cells (aO []) false true)),(some (.cells (DU x32) false true)),(some (.cells (bH dV) false true)),(some (.cells (aC e.2.2.1) false true)),(some (.cells (aO e.2.2.2) false true))])
def Oh (x1:Int) (aS:bf) (x2:Int) (x3:Int) (x4:Int) (x5:Int) (x6:Int) (x7:Int) (x8:Int) (bR:(Int×Int×Int×List UInt8×List UInt8×List UInt8)) (x9:Int) (x10:List UInt8) (x32:(List Int)) (dV:List av):Option ((Int×Int×List au×List ak)) :=
 (Og x1 aS x2 x3 x4 x5 x6 x7 x8 bR x9 x10 x32 dV).bind λ(x34:Bool)=>cond x34 ((yZ aS.eY aS.Epoch aS.Ops 0).bind λ(x35:Int×Int×List au×List ak)=>some (x35.1,x35.2.1,x35.2.2.1,x35.2.2.2)) (some (0,0,[],[]))
theorem abz (d:Nat) {x1:Int} {aS:bf} {x2:Int} {x3:Int} {x4:Int} {x5:Int} {x6:Int} {x7:Int} {x8:Int} {bR:(Int×Int×Int×List UInt8×List UInt8×List UInt8)} {x9:Int} {x10:List UInt8} {x32:(List Int)} {dV:List av} {r:(Int×Int×List au×List ak)} (h:Oh x1 aS x2 x3 x4 x5 x6 x7 x8 bR x9 x10 x32 dV=some r):bJ (aU (aB aH (d+5)) KK 154 Rp) 0 (Z0 x1 aS x2 x3 x4 x5 x6 x7 x8 bR x9 x10 x32 dV) (XO x1 aS x2 x3 x4 x5 x6 x7 x8 bR x9 x10 x32 dV r):=by
 unfold Oh at h
 exact bA nB Qz h (.bd λx34 q34=>Jn [2,4,5] [none,none,none] [] [] (aby (d+4) q34) <| .br 94 (λ_=>.bd λx35 q35=>Cl [Fo,Fo,Fo,Fo] none [.undef,.undef,.slice none 8 0 0 true] (K5 (d+0) q35) <| .st none <| E0 [2,4,5]) λ_=>E0 [2,4,5])
def agV (aS:bf) (hosts:Int):Option (Int×Int×Int×Int×Int×Int×Int×Int×Bool×Int×Int×Int×List UInt8×List UInt8×List UInt8×Int×List UInt8×Int×Int×List Int×List av×List au×List ak) :=
 (bE aS.Kind 10).bind λ(x1:Int)=>(bE aS.From hosts).bind λ(x2:Int)=>(bE aS.To hosts).bind λ(x3:Int)=>(bE aS.eY 6).bind λ(x4:Int)=>(bE aS.Epoch 6).bind λ(x5:Int)=>(bE aS.Weight 9).bind λ(x6:Int)=>(bE aS.Load 20).bind λ(x7:Int)=>(bE aS.qm 4).bind λ(x8:Int)=>(bE aS.Why 12).bind λ(x9:Int)=>(xV aS.Why).bind λ(x10:List UInt8)=>(Ry aS.Table 5).bind λ(dV:List av)=>(IU aS.Op).bind λ(cu:bn)=>(Od cu aS hosts x1 x2 x3 x4 x5 x6 x7 x8 x9 x10 dV).bind λ(bR:(Int×Int×Int×List UInt8×List UInt8×List UInt8))=>(WX aS hosts x1 x2 x3 x4 x5 x6 x7 x8 bR x9 x10 dV (0,[])).bind λ(x32:(List Int))=>(Oh x1 aS x2 x3 x4 x5 x6 x7 x8 bR x9 x10 x32 dV).bind λ(Bo:(Int×Int×List au×List ak))=>(bE aS.sH 22).bind λ(WW:Int)=>cond (WW==16) ((Ad aS.qm).bind λ(x38:Int)=>some ((IntKind.i64.wrap (1+x1)),x2,x3,x4,x5,x6,x7,x38,aS.dR,bR.1,bR.2.1,bR.2.2.1,bR.2.2.2.1,bR.2.2.2.2.1,bR.2.2.2.2.2,x9,x10,Bo.1,Bo.2.1,x32,dV,Bo.2.2.1,Bo.2.2.2)) (cond (WW==17) ((Ad aS.From).bind λ(x39:Int)=>some ((IntKind.i64.wrap (1+x1)),x39,x3,x4,x5,x6,x7,x8,aS.dR,bR.1,bR.2.1,bR.2.2.1,bR.2.2.2.1,bR.2.2.2.2.1,bR.2.2.2.2.2,x9,x10,Bo.1,Bo.2.1,x32,dV,Bo.2.2.1,Bo.2.2.2)) (cond (WW==18) ((bE aS.Kind 14).bind λ(x40:Int)=>some ((IntKind.i64.wrap (x40 - 1)),x2,x3,x4,x5,x6,x7,x8,aS.dR,bR.1,bR.2.1,bR.2.2.1,bR.2.2.2.1,bR.2.2.2.2.1,bR.2.2.2.2.2,x9,x10,Bo.1,Bo.2.1,x32,dV,Bo.2.2.1,Bo.2.2.2)) (cond (WW==19) ((yZ aS.eY aS.Epoch aS.Ops (IntKind.i64.wrap (Int.tdiv aS.sH 22))).bind λ(x41:Int×Int×List au×List ak)=>some ((IntKind.i64.wrap (1+x1)),x2,x3,x4,x5,x6,x7,x8,aS.dR,bR.1,bR.2.1,bR.2.2.1,bR.2.2.2.1,bR.2.2.2.2.1,bR.2.2.2.2.2,x9,x10,x41.1,x41.2.1,x32,dV,x41.2.2.1,x41.2.2.2)) (cond (WW==20) ((bE aS.Why 15).bind λ(x42:Int)=>some ((IntKind.i64.wrap (1+x1)),x2,x3,x4,x5,x6,x7,x8,aS.dR,bR.1,bR.2.1,bR.2.2.1,bR.2.2.2.1,bR.2.2.2.2.1,bR.2.2.2.2.2,(IntKind.i64.wrap (x42 - 2)),x10,Bo.1,Bo.2.1,x32,dV,Bo.2.2.1,Bo.2.2.2)) (cond (WW==21) (gd (dh 8 (x32++[1,2,3,4,5,6]).length) (some ((IntKind.i64.wrap (1+x1)),x2,x3,x4,x5,x6,x7,x8,aS.dR,bR.1,bR.2.1,bR.2.2.1,bR.2.2.2.1,bR.2.2.2.2.1,bR.2.2.2.2.2,x9,x10,Bo.1,Bo.2.1,(x32++[1,2,3,4,5,6]),dV,Bo.2.2.1,Bo.2.2.2))) (some ((IntKind.i64.wrap (1+x1)),x2,x3,x4,x5,x6,x7,x8,aS.dR,bR.1,bR.2.1,bR.2.2.1,bR.2.2.2.1,bR.2.2.2.2.1,bR.2.2.2.2.2,x9,x10,Bo.1,Bo.2.1,x32,dV,Bo.2.2.1,Bo.2.2.2)))))))
def TN (aS:bf) (hosts:Int) (r:Int×Int×Int×Int×Int×Int×Int×Int×Bool×Int×Int×Int×List UInt8×List UInt8×List UInt8×Int×List UInt8×Int×Int×List Int×List av×List au×List ak):AV×WH:=((.agg [(.int .i64 r.1),(.int .i64 r.2.1),(.int .i64 r.2.2.1),(.int .i64 r.2.2.2.1),(.int .i64 r.2.2.2.2.1),(.int .i64 r.2.2.2.2.2.1),(.int .i64 r.2.2.2.2.2.2.1),(.int .i64 r.2.2.2.2.2.2.2.1),(.bool r.2.2.2.2.2.2.2.2.1),(.int .i64 r.2.2.2.2.2.2.2.2.2.1),(.int .i64 r.2.2.2.2.2.2.2.2.2.2.1),(.int .i64 r.2.2.2.2.2.2.2.2.2.2.2.1),(.str r.2.2.2.2.2.2.2.2.2.2.2.2.1),(.str r.2.2.2.2.2.2.2.2.2.2.2.2.2.1),(.str r.2.2.2.2.2.2.2.2.2.2.2.2.2.2.1),(.int .i64 r.2.2.2.2.2.2.2.2.2.2.2.2.2.2.2.1),(.str r.2.2.2.2.2.2.2.2.2.2.2.2.2.2.2.2.1),(.acc 0 0 1 r.2.2.2.2.2.2.2.2.2.2.2.2.2.2.2.2.2.2.2.1.length true),(.acc 1 0 5 r.2.2.2.2.2.2.2.2.2.2.2.2.2.2.2.2.2.2.2.2.1.length true),(.int .i64 r.2.2.2.2.2.2.2.2.2.2.2.2.2.2.2.2.2.1),(.int .i64 r.2.2.2.2.2.2.2.2.2.2.2.2.2.2.2.2.2.2.1),(.acc 2 0 2 r.2.2.2.2.2.2.2.2.2.2.2.2.2.2.2.2.2.2.2.2.2.1.length true),(.acc 3 0 4 r.2.2.2.2.2.2.2.2.2.2.2.2.2.2.2.2.2.2.2.2.2.2.length true)]),[(some (.cells (DU r.2.2.2.2.2.2.2.2.2.2.2.2.2.2.2.2.2.2.2.1) false true)),(some (.cells (bH r.2.2.2.2.2.2.2.2.2.2.2.2.2.2.2.2.2.2.2.2.1) false true)),(some (.cells (aC r.2.2.2.2.2.2.2.2.2.2.2.2.2.2.2.2.2.2.2.2.2.1) false true)),(some (.cells (aO r.2.2.2.2.2.2.2.2.2.2.2.2.2.2.2.2.2.2.2.2.2.2) false true))])
theorem avR (d:Nat) {aS:bf} {hosts:Int} {r:Int×Int×Int×Int×Int×Int×Int×Int×Bool×Int×Int×Int×List UInt8×List UInt8×List UInt8×Int×List UInt8×Int×Int×List Int×List av×List au×List ak} (h:agV aS hosts=some r):Spec (aB aH (d+6)) 8 [(.agg (dM aS)),(.int .i64 hosts)] [] (TN aS hosts r).1 (TN aS hosts r).2:=by
 unfold agV at h
 exact aX nB AF8 h (.z 4 [.undef,.undef,.undef,.undef,.undef,.undef,.undef,.undef,.undef,.undef,.undef,.undef,.undef,.undef,.undef,.undef,.undef,.slice none 1 0 0 true,.slice none 5 0 0 true,.undef,.undef,.slice none 2 0 0 true,.slice none 4 0 0 true] <| .bd λx1 q1=>iA (bF (d+4) q1) <| .bd λx2 q2=>iA (bF (d+4) q2) <| .bd λx3 q3=>iA (bF (d+4) q3) <| .bd λx4 q4=>iA (bF (d+4) q4) <| .bd λx5 q5=>iA (bF (d+4) q5) <| .bd λx6 q6=>iA (bF (d+4) q6) <| .bd λx7 q7=>iA (bF (d+4) q7) <| .bd λx8 q8=>iA (bF (d+4) q8) <| .bd λx9 q9=>iA (bF (d+4) q9) <| .bd λx10 KV=>iA (KY (d+3) KV) <| .er <| .ob (rfl:@Eq (Option AV) (some (bg aS.Table)) (some (bg aS.Table))) <| .ob (rfl:@Eq (Option AV) (some (bg aS.Table)) (some (bg aS.Table))) <| .ob (rfl:@Eq (Option AV) (some (bg aS.Table)) (some (bg aS.Table))) <| .ob (rfl:@Eq (Option AV) (some (bg aS.Table)) (some (bg aS.Table))) <| .ob (rfl:@Eq (Option AV) (some (bg aS.Table)) (some (bg aS.Table))) <| .ob (rfl:@Eq (Option AV) (some (bg aS.Table)) (some (bg aS.Table))) <| .ob (rfl:@Eq (Option AV) (some (bg aS.Table)) (some (bg aS.Table))) <| .ob (rfl:@Eq (Option AV) (some (bg aS.Table)) (some (bg aS.Table))) <| .ob (rfl:@Eq (Option AV) (some (bg aS.Table)) (some (bg aS.Table))) <| .ob (rfl:@Eq (Option AV) (some (bg aS.Table)) (some (bg aS.Table))) <| .bd λdV IV=>Cl [Fo,Fo] none [.slice none 5 0 0 true] (aez (d+0) IV) <| .z 46 [.agg [.undef,.undef,.undef,.undef,.undef,.undef,.undef,.undef,.undef,.undef,.undef,.undef,.undef,.undef,.undef,.undef,.undef,.slice none 1 0 0 true,.slice none 5 0 0 true,.undef,.undef,.slice none 2 0 0 true,.slice none 4 0 0 true]] <| .z 5 [.undef,.undef,.undef,.undef,.undef,.undef,.undef,.undef,.undef,.undef,.undef,.undef,.undef,.undef,.undef,.undef,.undef,.slice none 1 0 0 true,.slice none 5 0 0 true,.undef,.undef,.slice none 2 0 0 true,.slice none 4 0 0 true] <| .st none <| .bd λcu KZ=>iA (TH (d+1) KZ) <| .st none <| .bd λbR KC=>Jn [1,2,4,5] [none,none,none,none] [] [] (abv (d+2) KC) <| .bd λx32 q32=>Lp [none,none,none,none,none] [Tw,Tw,Tw,Tw,Tw,Tw,Tw,Tw,Tw,Tw,Tw] [] (abx (d+4) q32) <| .bd λBo q36=>Jn [2,4,5] [none,none,none] [] [] (abz (d+0) q36) <| .bd λWW q37=>iA (bF (d+4) q37) <| .br 106 (λ_=>.bd λx38 q38=>iA (xW (d+3) q38) <| .st none <| .st none <| Fn none [.agg [.undef,.undef,.undef,.undef,.undef,.undef,.undef,.undef,.undef,.undef,.undef,.undef,.undef,.undef,.undef,.undef,.undef,.slice none 1 0 0 true,.slice none 5 0 0 true,.undef,.undef,.slice none 2 0 0 true,.slice none 4 0 0 true]] none) λ_=>.br 112 (λ_=>.bd λx39 q39=>iA (xW (d+3) q39) <| .st none <| .st none <| Fn none [.agg [.undef,.undef,.undef,.undef,.undef,.undef,.undef,.undef,.undef,.undef,.undef,.undef,.undef,.undef,.undef,.undef,.undef,.slice none 1 0 0 true,.slice none 5 0 0 true,.undef,.undef,.slice none 2 0 0 true,.slice none 4 0 0 true]] none) λ_=>.br 118 (λ_=>.bd λx40 q40=>iA (bF (d+4) q40) <| .st none <| .st none <| Fn none [.agg [.undef,.undef,.undef,.undef,.undef,.undef,.undef,.undef,.undef,.undef,.undef,.undef,.undef,.undef,.undef,.undef,.undef,.slice none 1 0 0 true,.slice none 5 0 0 true,.undef,.undef,.slice none 2 0 0 true,.slice none 4 0 0 true]] none) λ_=>.br 125 (λ_=>.bd λx41 q41=>Cl [Fo,Fo,Fo,Fo] none [.undef,.undef,.slice none 8 0 0 true] (K5 (d+0) q41) <| .st none <| .st none <| Fn none [.agg [.undef,.undef,.undef,.undef,.undef,.undef,.undef,.undef,.undef,.undef,.undef,.undef,.undef,.undef,.undef,.undef,.undef,.slice none 1 0 0 true,.slice none 5 0 0 true,.undef,.undef,.slice none 2 0 0 true,.slice none 4 0 0 true]] none) λ_=>.br 138 (λ_=>.bd λx42 q42=>iA (bF (d+4) q42) <| .st none <| .st none <| Fn none [.agg [.undef,.undef,.undef,.undef,.undef,.undef,.undef,.undef,.undef,.undef,.undef,.undef,.undef,.undef,.undef,.undef,.undef,.slice none 1 0 0 true,.slice none 5 0 0 true,.undef,.undef,.slice none 2 0 0 true,.slice none 4 0 0 true]] none) λ_=>.br 146 (λ_=>.gd λq43=>Ap Jp 151 q43 <| .st none <| .st none <| Fn none [.agg [.undef,.undef,.undef,.undef,.undef,.undef,.undef,.undef,.undef,.undef,.undef,.undef,.undef,.undef,.undef,.undef,.undef,.slice none 1 0 0 true,.slice none 5 0 0 true,.undef,.undef,.slice none 2 0 0 true,.slice none 4 0 0 true]] none) λ_=>.st none <| Fn none [.agg [.undef,.undef,.undef,.undef,.undef,.undef,.undef,.undef,.undef,.undef,.undef,.undef,.undef,.undef,.undef,.undef,.undef,.slice none 1 0 0 true,.slice none 5 0 0 true,.undef,.undef,.slice none 2 0 0 true,.slice none 4 0 0 true]] none)
def wz (a:aD):Option (Bool) :=
 cond (decide (a.Why≥0)) (cond (decide (a.Why≤11)) (some (decide ((a.Value.length:Int)≤16))) (some false)) (some false)
def J6 (a:aD) (r:Bool):AV×WH:=((.bool r),[])
theorem FN (d:Nat) {a:aD} {r:Bool} (h:wz a=some r):Spec (aB aH (d+1)) 52 [(.agg (dQ a))] [] (J6 a r).1 (J6 a r).2:=by
 unfold wz at h
 exact aX nB ayp h (.br 6 (λ_=>.br 11 (λ_=>Fn Fo [] none) λ_=>Fn Fo [] none) λ_=>Fn Fo [] none)
def ED (aS:aA):Option (Bool) :=
 cond (aS.eY==0) (cond (aS.Epoch==0) (cond ((aS.Pairs.length:Int)==0) (some ((aS.dX.length:Int)==0)) (some false)) (some false)) (some false)
def J7 (aS:aA) (r:Bool):AV×WH:=((.bool r),[])
theorem Z4 (d:Nat) {aS:aA} {r:Bool} (h:ED aS=some r):Spec (aB aH (d+1)) 91 [(.agg (bI aS))] [] (J7 aS r).1 (J7 aS r).2:=by
 unfold ED at h
 exact aX nB ayW h (.br 6 (λ_=>.br 11 (λ_=>.br 17 (λ_=>Fn Fo [] none) λ_=>Fn Fo [] none) λ_=>Fn Fo [] none) λ_=>Fn Fo [] none)
abbrev Rz (a:aA) (aY:aA):Fast×WH:=([(2,(.ptr (some (0,0)))),(3,(.ptr (some (1,0))))],[(some (.cells (bI a) false false)),(some (.cells (bI aY) false false))])
def P6 (a:aA) (aY:aA):Unit⊕Unit→Ex×Fast×WH:=fun
 | .inl e=>(.ret,[(4,(.bool false))],[])
 | .inr e=>(.normal,[(2,(.ptr (some (0,0)))),(3,(.ptr (some (1,0))))],[(some (.cells (bI a) false false)),(some (.cells (bI aY) false false))])
def yH (a:aA) (aY:aA):Option (Unit⊕Unit) :=
 cond (a.eY != aY.eY) (some (.inl ())) (cond (a.Epoch != aY.Epoch) (some (.inl ())) (cond ((a.Pairs.length:Int) != (aY.Pairs.length:Int)) (some (.inl ())) (cond ((a.dX.length:Int) != (aY.dX.length:Int)) (some (.inl ())) (some (.inr ())))))
theorem H7 (d:Nat) {a:aA} {aY:aA} {r:Unit⊕Unit} (h:yH a aY=some r):bJ (aU (aB aH (d+0)) KK 73 aki) 0 (Rz a aY) (P6 a aY r):=by
 unfold yH at h
 exact bA nB aiC h (.br 12 (λ_=>E0 [4]) λ_=>.br 19 (λ_=>E0 [4]) λ_=>.br 28 (λ_=>E0 [4]) λ_=>.br 36 (λ_=>E0 [4]) λ_=>E0 [2,3])
def rR (a:aA) (aY:aA) (s5:Int):List AV×WH:=([(.ptr (some (0,0))),(.ptr (some (1,0))),(.int .i64 s5)],[(some (.cells (bI a) false false)),(some (.cells (bI aY) false false))])
def xC (a:aA) (aY:aA):Unit⊕Unit→Ex×Fast×WH:=fun
 | .inl e=>(.ret,[(4,(.bool false))],[])
 | .inr e=>((.exit 0),[(2,(.ptr (some (0,0)))),(3,(.ptr (some (1,0))))],[(some (.cells (bI a) false false)),(some (.cells (bI aY) false false))])
abbrev RA (a:aA) (aY:aA):=dx [2,3,5] (rR a aY) (xC a aY)
def pq (a:aA) (aY:aA) (s5:Int):Option ((Int)⊕(Unit⊕Unit)) :=
 cond (decide (s5 < (a.Pairs.length:Int))) ((bO a.Pairs s5).bind λ(x6:au)=>(bO aY.Pairs s5).bind λ(x7:au)=>cond (!(x6.Key==x7.Key&&(x6.Value==x7.Value&&true))) (some (.inr (.inl ()))) (some (.inl (IntKind.i64.wrap (s5+1))))) (some (.inr (.inr ())))
def D5 (a:aA) (aY:aA) (s5:Int):Option (Unit⊕Unit):=bT (pq a aY) KK s5
theorem TP (d:Nat) {a:aA} {aY:aA} {s5:Int} {r:(Int)⊕(Unit⊕Unit)} (h:pq a aY s5=some r):bJ (aU (aB aH (d+0)) KK 73 aiD) 0 (jg [2,3,5] (rR a aY s5)) (RA a aY r):=by
 unfold pq at h
 exact bA nB alz h (.br 41 (λ_=>.bd λx6 q6=>Ix aQ 47 q6 <| .bd λx7 q7=>Ix aQ 52 q7 <| .br 54 (λ_=>E0 [4]) λ_=>E0 [2,3,5]) λ_=>E0 [2,3])
theorem H8 (d:Nat) {a:aA} {aY:aA} {s5:Int} {r:Unit⊕Unit} (h:D5 a aY s5=some r):bJ (eu (aU (aB aH (d+0)) KK 73 aiD) [2,3,5] KK) 0 (jg [2,3,5] (rR a aY s5)) (xC a aY r) :=
 bY (st:=rR a aY) (fin:=xC a aY) (step:=pq a aY) (λe=>by rcases e with e | e<;>(intro h;cases h)) (λs x h=>TP d h) KK s5 r h
def rT (a:aA) (aY:aA) (s12:Int):List AV×WH:=([(.ptr (some (0,0))),(.ptr (some (1,0))),(.int .i64 s12)],[(some (.cells (bI a) false false)),(some (.cells (bI aY) false false))])
def xD (a:aA) (aY:aA):Unit⊕Unit→Ex×Fast×WH:=fun
 | .inl e=>(.ret,[(4,(.bool false))],[])
 | .inr e=>((.exit 2),[],[])
abbrev RB (a:aA) (aY:aA):=dx [2,3,6] (rT a aY) (xD a aY)
def pE (a:aA) (aY:aA) (s12:Int):Option ((Int)⊕(Unit⊕Unit)) :=
 cond (decide (s12 < (a.dX.length:Int))) ((bO a.dX s12).bind λ(qJ:ak)=>(bO aY.dX s12).bind λ(lH:ak)=>cond (!(qJ.Client==lH.Client&&(qJ.Seq==lH.Seq&&(qJ.Answer.Why==lH.Answer.Why&&(qJ.Answer.Value==lH.Answer.Value&&true))))) (some (.inr (.inl ()))) (some (.inl (IntKind.i64.wrap (s12+1))))) (some (.inr (.inr ())))
def D6 (a:aA) (aY:aA) (s12:Int):Option (Unit⊕Unit):=bT (pE a aY) KK s12
theorem TQ (d:Nat) {a:aA} {aY:aA} {s12:Int} {r:(Int)⊕(Unit⊕Unit)} (h:pE a aY s12=some r):bJ (aU (aB aH (d+0)) KK 73 aiE) 0 (jg [2,3,6] (rT a aY s12)) (RB a aY r):=by
 unfold pE at h
 exact bA nB alA h (.br 59 (λ_=>.bd λqJ XA=>Ix bS 65 XA <| .bd λlH LW=>Ix bS 70 LW <| .br 72 (λ_=>E0 [4]) λ_=>E0 [2,3,6]) λ_=>E0 [])
theorem H9 (d:Nat) {a:aA} {aY:aA} {s12:Int} {r:Unit⊕Unit} (h:D6 a aY s12=some r):bJ (eu (aU (aB aH (d+0)) KK 73 aiE) [2,3,6] KK) 0 (jg [2,3,6] (rT a aY s12)) (xD a aY r) :=
 bY (st:=rT a aY) (fin:=xD a aY) (step:=pE a aY) (λe=>by rcases e with e | e<;>(intro h;cases h)) (λs x h=>TQ d h) KK s12 r h
def pF (a:aA) (aY:aA):Option (Bool) :=
 (yH a aY).bind λ(x1:Unit⊕Unit)=>cond (jI x1) (some false) ((D5 a aY 0).bind λ(x8:Unit⊕Unit)=>cond (jI x8) (some false) ((D6 a aY 0).bind λ(bR:Unit⊕Unit)=>cond (jI bR) (some false) (some true)))
def J8 (a:aA) (aY:aA) (r:Bool):AV×WH:=((.bool r),[])
theorem Oi (d:Nat) {a:aA} {aY:aA} {r:Bool} (h:pF a aY=some r):Spec (aB aH (d+1)) 64 [(.agg (bI a)),(.agg (bI aY))] [] (J8 a aY r).1 (J8 a aY r).2:=by
 unfold pF at h
 exact aX nB ayA h (.sk <| .bd λx1 q1=>.ite (λhb2=>Jn [2,3] [none,none] [] [] (jA (il hb2) (H7 (d+0) q1)) <| Fn Fo [] none) λhb2=>Jn [2,3] [none,none] [] [] (jA (zy hb2) (H7 (d+0) q1)) <| .bd λx8 q8=>.ite (λhb9=>Lp [none,none,none] [] [] (jA (il hb9) (H8 (d+0) q8)) <| Fn Fo [] none) λhb9=>Lp [none,none,none] [] [] (jA (zy hb9) (H8 (d+0) q8)) <| .bd λbR KC=>.ite (λZ5=>Lp [none,none,none] [] [] (jA (il Z5) (H9 (d+0) KC)) <| Fn Fo [] none) λZ5=>Lp [none,none,none] [] [] (jA (zy Z5) (H9 (d+0) KC)) <| Fn Fo [] none)
abbrev P7 (aS:aA):Fast×WH:=([(1,(.ptr (some (0,0))))],[(some (.cells (bI aS) false false))])
def Oj (aS:aA):Unit⊕Unit→Ex×Fast×WH:=fun
 | .inl e=>(.ret,[(2,(.bool false))],[])
 | .inr e=>(.normal,[(1,(.ptr (some (0,0))))],[(some (.cells (bI aS) false false))])
def kG (aS:aA):Option (Unit⊕Unit) :=
 cond (decide (aS.eY < 0)) (some (.inl ())) (cond (decide (aS.eY≥6)) (some (.inl ())) (cond (decide (aS.Epoch < 1)) (some (.inl ())) (cond (decide (aS.Epoch > 1099511627776)) (some (.inl ())) (some (.inr ())))))
theorem FP (d:Nat) {aS:aA} {r:Unit⊕Unit} (h:kG aS=some r):bJ (aU (aB aH (d+0)) KK 113 akl) 0 (P7 aS) (Oj aS r):=by
 unfold kG at h
 exact bA nB aiP h (.br 10 (λ_=>E0 [2]) λ_=>.br 15 (λ_=>E0 [2]) λ_=>.br 20 (λ_=>E0 [2]) λ_=>.br 24 (λ_=>E0 [2]) λ_=>E0 [1])
def qz (aS:aA) (s6:Int):List AV×WH:=([(.ptr (some (0,0))),(.int .i64 s6)],[(some (.cells (bI aS) false false))])
def uQ (aS:aA):Unit⊕Unit→Ex×Fast×WH:=fun
 | .inl e=>(.ret,[(2,(.bool false))],[])
 | .inr e=>((.exit 0),[(1,(.ptr (some (0,0))))],[(some (.cells (bI aS) false false))])
abbrev P8 (aS:aA):=dx [1,3] (qz aS) (uQ aS)
def jq (aS:aA) (s6:Int):Option ((Int)⊕(Unit⊕Unit)) :=
 cond (decide (s6 < (aS.Pairs.length:Int))) ((bO aS.Pairs s6).bind λ(x7:au)=>cond (decide ((x7.Key.length:Int) < 1)) (some (.inr (.inl ()))) ((bO aS.Pairs s6).bind λ(x8:au)=>cond (decide ((x8.Key.length:Int) > 8)) (some (.inr (.inl ()))) ((bO aS.Pairs s6).bind λ(x9:au)=>cond (decide ((x9.Value.length:Int) > 16)) (some (.inr (.inl ()))) (some (.inl (IntKind.i64.wrap (s6+1))))))) (some (.inr (.inr ())))
def BS (aS:aA) (s6:Int):Option (Unit⊕Unit):=bT (jq aS) KK s6
theorem RD (d:Nat) {aS:aA} {s6:Int} {r:(Int)⊕(Unit⊕Unit)} (h:jq aS s6=some r):bJ (aU (aB aH (d+0)) KK 113 aiQ) 0 (jg [1,3] (qz aS s6)) (P8 aS r):=by
 unfold jq at h
 exact bA nB alL h (.br 29 (λ_=>.bd λx7 q7=>Ix aQ 35 q7 <| .br 40 (λ_=>E0 [2]) λ_=>.bd λx8 q8=>Ix aQ 44 q8 <| .br 50 (λ_=>E0 [2]) λ_=>.bd λx9 q9=>Ix aQ 54 q9 <| .br 59 (λ_=>E0 [2]) λ_=>E0 [1,3]) λ_=>E0 [1])
theorem FQ (d:Nat) {aS:aA} {s6:Int} {r:Unit⊕Unit} (h:BS aS s6=some r):bJ (eu (aU (aB aH (d+0)) KK 113 aiQ) [1,3] KK) 0 (jg [1,3] (qz aS s6)) (uQ aS r) :=
 bY (st:=qz aS) (fin:=uQ aS) (step:=jq aS) (λe=>by rcases e with e | e<;>(intro h;cases h)) (λs x h=>RD d h) KK s6 r h
abbrev P9 (bR:ak) (qA:Int) (aS:aA):Fast×WH:=([(1,(.ptr (some (0,0)))),(4,(.int .i64 qA)),(5,(.ptr (some (1,0))))],[(some (.cells (bI aS) false false)),(some (.cells (bM bR) false false))])
def Ol (bR:ak) (qA:Int) (aS:aA):Bool→Ex×Fast×WH:=λe=>(.normal,[(1,(.ptr (some (0,0)))),(4,(.int .i64 qA)),(5,(.ptr (some (1,0)))),(6,(.bool e))],[(some (.cells (bI aS) false false)),(some (.cells (bM bR) false false))])
def wC (bR:ak) (qA:Int) (aS:aA):Option (Bool) :=
 cond (bR.Answer.Why==0) (some true) (cond (bR.Answer.Why==4) (some true) (cond (bR.Answer.Why==5) (some true) (some (bR.Answer.Why==6))))
theorem RF (d:Nat) {bR:ak} {qA:Int} {aS:aA} {r:Bool} (h:wC bR qA aS=some r):bJ (aU (aB aH (d+0)) KK 113 Hw) 0 (P9 bR qA aS) (Ol bR qA aS r):=by
 unfold wC at h
 exact bA nB ND h (.br 76 (λ_=>E0 [1,4,5,6]) λ_=>.br 82 (λ_=>E0 [1,4,5,6]) λ_=>.br 88 (λ_=>E0 [1,4,5,6]) λ_=>E0 [1,4,5,6])
def qB (aS:aA) (qA:Int):List AV×WH:=([(.ptr (some (0,0))),(.int .i64 qA)],[(some (.cells (bI aS) false false))])
def uR (aS:aA):Unit⊕Unit→Ex×Fast×WH:=fun
 | .inl e=>(.ret,[(2,(.bool false))],[])
 | .inr e=>((.exit 2),[(1,(.ptr (some (0,0))))],[(some (.cells (bI aS) false false))])
abbrev P_ (aS:aA):=dx [1,4] (qB aS) (uR aS)
def jr (aS:aA) (qA:Int):Option ((Int)⊕(Unit⊕Unit)) :=
 cond (decide (qA < (aS.dX.length:Int))) ((bO aS.dX qA).bind λ(bR:ak)=>(wC bR qA aS).bind λ(yY:Bool)=>cond (!yY) (some (.inr (.inl ()))) (cond (decide (bR.Seq > 4611686018427387903)) (some (.inr (.inl ()))) (cond (decide ((bR.Answer.Value.length:Int) > 16)) (some (.inr (.inl ()))) (some (.inl (IntKind.i64.wrap (qA+1))))))) (some (.inr (.inr ())))
def BU (aS:aA) (qA:Int):Option (Unit⊕Unit):=bT (jr aS) KK qA
theorem RG (d:Nat) {aS:aA} {qA:Int} {r:(Int)⊕(Unit⊕Unit)} (h:jr aS qA=some r):bJ (aU (aB aH (d+0)) KK 113 aiR) 0 (jg [1,4] (qB aS qA)) (P_ aS r):=by
 unfold jr at h
 exact bA nB alM h (.br 64 (λ_=>.bd λbR KC=>Ix bS 70 KC <| .st none <| .bd λyY q16=>Jn [1,4,5] [none,none,none] [] [] (RF (d+0) q16) <| .br 96 (λ_=>E0 [2]) λ_=>.br 101 (λ_=>E0 [2]) λ_=>.br 107 (λ_=>E0 [2]) λ_=>E0 [1,4]) λ_=>E0 [1])
theorem FR (d:Nat) {aS:aA} {qA:Int} {r:Unit⊕Unit} (h:BU aS qA=some r):bJ (eu (aU (aB aH (d+0)) KK 113 aiR) [1,4] KK) 0 (jg [1,4] (qB aS qA)) (uR aS r) :=
 bY (st:=qB aS) (fin:=uR aS) (step:=jr aS) (λe=>by rcases e with e | e<;>(intro h;cases h)) (λs x h=>RG d h) KK qA r h
def sP (aS:aA):Option (Bool) :=
 (kG aS).bind λ(x1:Unit⊕Unit)=>cond (jI x1) (some false) ((BS aS 0).bind λ(x10:Unit⊕Unit)=>cond (jI x10) (some false) ((BU aS 0).bind λ(iU:Unit⊕Unit)=>cond (jI iU) (some false) ((mD aS).bind λ(om:aT)=>(uP om).bind λ(x20:aA)=>(pF aS x20).bind λ(x21:Bool)=>some x21)))
def H_ (aS:aA) (r:Bool):AV×WH:=((.bool r),[])
theorem XP (d:Nat) {aS:aA} {r:Bool} (h:sP aS=some r):Spec (aB aH (d+5)) 92 [(.agg (bI aS))] [] (H_ aS r).1 (H_ aS r).2:=by
 unfold sP at h
 exact aX nB ayX h (.sk <| .bd λx1 q1=>.ite (λhb2=>Jn [1] [none] [] [] (jA (il hb2) (FP (d+4) q1)) <| Fn Fo [] none) λhb2=>Jn [1] [none] [] [] (jA (zy hb2) (FP (d+4) q1)) <| .bd λx10 KV=>.ite (λavS=>Lp [none,none] [] [] (jA (il avS) (FQ (d+4) KV)) <| Fn Fo [] none) λavS=>Lp [none,none] [] [] (jA (zy avS) (FQ (d+4) KV)) <| .bd λiU GH=>.ite (λZ6=>Lp [none,none] [] [] (jA (il Z6) (FR (d+4) GH)) <| Fn Fo [] none) λZ6=>Lp [none,none] [] [] (jA (zy Z6) (FR (d+4) GH)) <| .bd λom QG=>Cl [] Fo [.agg [.undef,.undef,.slice none 2 0 0 true,.slice none 4 0 0 true]] (FI (d+0) QG) <| .bd λx20 q20=>Cl [] Fo [] (Vm (d+3) q20) <| .bd λx21 q21=>Cb [.agg [.undef,.undef,.slice none 2 0 0 true,.slice none 4 0 0 true],.agg [.undef,.undef,.slice none 2 0 0 true,.slice none 4 0 0 true]] (Oi (d+3) q21) <| Fn Fo [] none)
def uS (aS:aA):Option (Bool) :=
 (ED aS).bind λ(x1:Bool)=>cond x1 (some true) ((sP aS).bind λ(x2:Bool)=>some x2)
def L8 (aS:aA) (r:Bool):AV×WH:=((.bool r),[])
theorem Jf (d:Nat) {aS:aA} {r:Bool} (h:uS aS=some r):Spec (aB aH (d+6)) 53 [(.agg (bI aS))] [] (L8 aS r).1 (L8 aS r).2:=by
 unfold uS at h
 exact aX nB ayq h (.bd λx1 q1=>Cb [.agg [.undef,.undef,.slice none 2 0 0 true,.slice none 4 0 0 true]] (Z4 (d+4) q1) <| .br 5 (λ_=>Fn Fo [] none) λ_=>.bd λx2 q2=>Cb [.agg [.undef,.undef,.slice none 2 0 0 true,.slice none 4 0 0 true]] (XP (d+0) q2) <| Fn Fo [] none)
def FT (n:Int):Option (Bool) :=
 cond (decide (n≥0)) (some (decide (n≤4611686018427387903))) (some false)
def Z7 (n:Int) (r:Bool):AV×WH:=((.bool r),[])
theorem FU (d:Nat) {n:Int} {r:Bool} (h:FT n=some r):Spec (aB aH (d+1)) 54 [(.int .i64 n)] [] (Z7 n r).1 (Z7 n r).2:=by
 unfold FT at h
 exact aX nB ayr h (.br 5 (λ_=>Fn Fo [] none) λ_=>Fn Fo [] none)
abbrev TR (m:aF):Fast×WH:=([(1,(.ptr (some (0,0))))],[(some (.cells (bX m) false false))])
def RH (m:aF):Unit⊕Unit→Ex×Fast×WH:=fun
 | .inl e=>(.ret,[(2,(.bool false))],[])
 | .inr e=>(.normal,[(1,(.ptr (some (0,0))))],[(some (.cells (bX m) false false))])
def Aq (m:aF):Option (Unit⊕Unit) :=
 cond (decide (m.Kind < 1)) (some (.inl ())) (cond (decide (m.Kind > 10)) (some (.inl ())) (cond (decide ((m.Path.length:Int) > 5)) (some (.inl ())) (cond (decide ((m.Table.length:Int) > 5)) (some (.inl ())) ((qL m.IK).bind λ(x1:Bool)=>cond (!x1) (some (.inl ())) ((wz m.Answer).bind λ(x2:Bool)=>cond (!x2) (some (.inl ())) ((uS m.xg).bind λ(x3:Bool)=>cond (!x3) (some (.inl ())) (some (.inr ()))))))))
theorem J9 (d:Nat) {m:aF} {r:Unit⊕Unit} (h:Aq m=some r):bJ (aU (aB aH (d+6)) KK 120 ake) 0 (TR m) (RH m r):=by
 unfold Aq at h
 exact bA nB ah9 h (.br 11 (λ_=>E0 [2]) λ_=>.br 16 (λ_=>E0 [2]) λ_=>.br 22 (λ_=>E0 [2]) λ_=>.br 28 (λ_=>E0 [2]) λ_=>.bd λx1 q1=>iA (C_ (d+3) q1) <| .br 34 (λ_=>E0 [2]) λ_=>.bd λx2 q2=>iA (FN (d+5) q2) <| .br 40 (λ_=>E0 [2]) λ_=>.bd λx3 q3=>Cb [.agg [.undef,.undef,.slice none 2 0 0 true,.slice none 4 0 0 true]] (Jf (d+0) q3) <| .br 45 (λ_=>E0 [2]) λ_=>E0 [1])
def tN (m:aF) (s8:Int):List AV×WH:=([(.ptr (some (0,0))),(.agg [(.int .i64 m.From),(.int .i64 m.To),(.int .i64 m.eY),(.int .i64 m.Epoch),(.int .i64 m.Weight),(.int .i64 m.Load),(.int .i64 m.qm)]),(.int .i64 s8)],[(some (.cells (bX m) false false))])
def y7 (m:aF):Unit⊕Unit→Ex×Fast×WH:=fun
 | .inl e=>(.ret,[(2,(.bool false))],[])
 | .inr e=>((.exit 0),[(1,(.ptr (some (0,0))))],[(some (.cells (bX m) false false))])
abbrev TT (m:aF):=dx [1,60,61] (tN m) (y7 m)
def qM (m:aF) (s8:Int):Option ((Int)⊕(Unit⊕Unit)) :=
 cond (decide (s8 < 7)) ((bO ([m.From,m.To,m.eY,m.Epoch,m.Weight,m.Load,m.qm]:List Int) s8).bind λ(x9:Int)=>(FT x9).bind λ(x10:Bool)=>cond (!x10) (some (.inr (.inl ()))) (some (.inl (IntKind.i64.wrap (s8+1))))) (some (.inr (.inr ())))
def FV (m:aF) (s8:Int):Option (Unit⊕Unit):=bT (qM m) KK s8
theorem Vs (d:Nat) {m:aF} {s8:Int} {r:(Int)⊕(Unit⊕Unit)} (h:qM m s8=some r):bJ (aU (aB aH (d+1)) KK 120 aia) 0 (jg [1,60,61] (tN m s8)) (TT m r):=by
 unfold qM at h
 exact bA nB ala h (.br 62 (λ_=>.bd λx9 q9=>.v 63 (.int .i64 x9) <| .ob (am6 Jp q9:wP (.index false 7 1 (.c (.agg [(.int .i64 m.From),(.int .i64 m.To),(.int .i64 m.eY),(.int .i64 m.Epoch),(.int .i64 m.Weight),(.int .i64 m.Load),(.int .i64 m.qm)])) (.c (.int .i64 s8)))=some (.int .i64 x9)) <| .bd λx10 KV=>iA (FU (d+0) KV) <| .br 66 (λ_=>E0 [2]) λ_=>E0 [1,60,61]) λ_=>E0 [1])
theorem J_ (d:Nat) {m:aF} {s8:Int} {r:Unit⊕Unit} (h:FV m s8=some r):bJ (eu (aU (aB aH (d+1)) KK 120 aia) [1,60,61] KK) 0 (jg [1,60,61] (tN m s8)) (y7 m r) :=
 bY (st:=tN m) (fin:=y7 m) (step:=qM m) (λe=>by rcases e with e | e<;>(intro h;cases h)) (λs x h=>Vs d h) KK s8 r h
def tO (m:aF) (s15:Int):List AV×WH:=([(.ptr (some (0,0))),(.int .i64 s15)],[(some (.cells (bX m) false false))])
def y8 (m:aF):Unit⊕Unit→Ex×Fast×WH:=fun
 | .inl e=>(.ret,[(2,(.bool false))],[])
 | .inr e=>((.exit 2),[(1,(.ptr (some (0,0))))],[(some (.cells (bX m) false false))])
abbrev TU (m:aF):=dx [1,5] (tO m) (y8 m)
def mY (m:aF) (s15:Int):Option ((Int)⊕(Unit⊕Unit)) :=
 cond (decide (s15 < (m.Path.length:Int))) ((bO m.Path s15).bind λ(yY:Int)=>(FT yY).bind λ(iU:Bool)=>cond (!iU) (some (.inr (.inl ()))) (some (.inl (IntKind.i64.wrap (s15+1))))) (some (.inr (.inr ())))
def FW (m:aF) (s15:Int):Option (Unit⊕Unit):=bT (mY m) KK s15
theorem Vt (d:Nat) {m:aF} {s15:Int} {r:(Int)⊕(Unit⊕Unit)} (h:mY m s15=some r):bJ (aU (aB aH (d+1)) KK 120 aib) 0 (jg [1,5] (tO m s15)) (TU m r):=by
 unfold mY at h
 exact bA nB alb h (.br 72 (λ_=>.bd λyY q16=>Ix Jp 78 q16 <| .bd λiU GH=>iA (FU (d+0) GH) <| .br 81 (λ_=>E0 [2]) λ_=>E0 [1,5]) λ_=>E0 [1])
theorem Ka (d:Nat) {m:aF} {s15:Int} {r:Unit⊕Unit} (h:FW m s15=some r):bJ (eu (aU (aB aH (d+1)) KK 120 aib) [1,5] KK) 0 (jg [1,5] (tO m s15)) (y8 m r) :=
 bY (st:=tO m) (fin:=y8 m) (step:=mY m) (λe=>by rcases e with e | e<;>(intro h;cases h)) (λs x h=>Vt d h) KK s15 r h
def tQ (m:aF) (s24:Int):List AV×WH:=([(.ptr (some (0,0))),(.int .i64 s24)],[(some (.cells (bX m) false false))])
def y9 (m:aF):Unit⊕Unit→Ex×Fast×WH:=fun
 | .inl e=>(.ret,[(2,(.bool false))],[])
 | .inr e=>((.exit 4),[],[])
abbrev TV (m:aF):=dx [1,6] (tQ m) (y9 m)
def mZ (m:aF) (s24:Int):Option ((Int)⊕(Unit⊕Unit)) :=
 cond (decide (s24 < (m.Table.length:Int))) ((bO m.Table s24).bind λ(x25:av)=>(FT x25.Inc).bind λ(qo:Bool)=>cond (!qo) (some (.inr (.inl ()))) (cond (decide (x25.Status < 0)) (some (.inr (.inl ()))) (cond (decide (x25.Status > 2)) (some (.inr (.inl ()))) ((FT x25.ql).bind λ(x27:Bool)=>cond (!x27) (some (.inr (.inl ()))) ((FT x25.Load).bind λ(x28:Bool)=>cond (!x28) (some (.inr (.inl ()))) (some (.inl (IntKind.i64.wrap (s24+1))))))))) (some (.inr (.inr ())))
def FX (m:aF) (s24:Int):Option (Unit⊕Unit):=bT (mZ m) KK s24
theorem Vu (d:Nat) {m:aF} {s24:Int} {r:(Int)⊕(Unit⊕Unit)} (h:mZ m s24=some r):bJ (aU (aB aH (d+1)) KK 120 aic) 0 (jg [1,6] (tQ m s24)) (TV m r):=by
 unfold mZ at h
 exact bA nB alc h (.br 86 (λ_=>.bd λx25 q25=>Ix mJ 92 q25 <| .st none <| .bd λqo q26=>iA (FU (d+0) q26) <| .br 98 (λ_=>E0 [2]) λ_=>.br 103 (λ_=>E0 [2]) λ_=>.br 108 (λ_=>E0 [2]) λ_=>.bd λx27 q27=>iA (FU (d+0) q27) <| .br 114 (λ_=>E0 [2]) λ_=>.bd λx28 q28=>iA (FU (d+0) q28) <| .br 119 (λ_=>E0 [2]) λ_=>E0 [1,6]) λ_=>E0 [])
theorem Kc (d:Nat) {m:aF} {s24:Int} {r:Unit⊕Unit} (h:FX m s24=some r):bJ (eu (aU (aB aH (d+1)) KK 120 aic) [1,6] KK) 0 (jg [1,6] (tQ m s24)) (y9 m r) :=
 bY (st:=tQ m) (fin:=y9 m) (step:=mZ m) (λe=>by rcases e with e | e<;>(intro h;cases h)) (λs x h=>Vu d h) KK s24 r h
def Dh (m:aF):Option (Bool) :=
 (Aq m).bind λ(x4:Unit⊕Unit)=>cond (jI x4) (some false) ((FV m 0).bind λ(dV:Unit⊕Unit)=>cond (jI dV) (some false) ((FW m 0).bind λ(x18:Unit⊕Unit)=>cond (jI x18) (some false) ((FX m 0).bind λ(x29:Unit⊕Unit)=>cond (jI x29) (some false) (some true))))
def L9 (m:aF) (r:Bool):AV×WH:=((.bool r),[])
theorem abA (d:Nat) {m:aF} {r:Bool} (h:Dh m=some r):Spec (aB aH (d+7)) 11 [(.agg (bX m))] [] (L9 m r).1 (L9 m r).2:=by
 unfold Dh at h
 exact aX nB axX h (.sk <| .bd λx4 q4=>.ite (λhb5=>Jn [1] [none] [] [] (jA (il hb5) (J9 (d+0) q4)) <| Fn Fo [] none) λhb5=>Jn [1] [none] [] [] (jA (zy hb5) (J9 (d+0) q4)) <| .bd λdV IV=>.ite (λRx=>Lp [none,none,none] [] [] (jA (il Rx) (J_ (d+5) IV)) <| Fn Fo [] none) λRx=>Lp [none,none,none] [] [] (jA (zy Rx) (J_ (d+5) IV)) <| .bd λx18 Vk=>.ite (λajf=>Lp [none,none] [] [] (jA (il ajf) (Ka (d+5) Vk)) <| Fn Fo [] none) λajf=>Lp [none,none] [] [] (jA (zy ajf) (Ka (d+5) Vk)) <| .bd λx29 q29=>.ite (λajg=>Lp [none,none] [] [] (jA (il ajg) (Kc (d+5) q29)) <| Fn Fo [] none) λajg=>Lp [none,none] [] [] (jA (zy ajg) (Kc (d+5) q29)) <| Fn Fo [] none)
def EF (l:List Int) (s9:Int×List UInt8) (s13:Int×List UInt8):List AV×WH:=([(KT l),(.acc 0 0 1 s13.2.length true),(.int .i64 s9.1),(.int .i64 s13.1)],[(some (.cells (ML s13.2) false true))])
def Jg (l:List Int) (s9:Int×List UInt8):(Int×List UInt8)→Ex×Fast×WH:=λe=>((.exit 2),[(1,(KT l)),(5,(.acc 0 0 1 e.2.length true)),(6,(.int .i64 s9.1)),(7,(.int .i64 e.1))],[(some (.cells (ML e.2) false true))])
abbrev aeA (l:List Int) (s9:Int×List UInt8):=dx [1,5,6,7] (EF l s9) (Jg l s9)
def Ib (l:List Int) (s9:Int×List UInt8) (s13:Int×List UInt8):Option ((Int×List UInt8)⊕((Int×List UInt8))) :=
 cond (decide (s13.1≥128)) (gd (dh 1 (s13.2++[(Em (IntKind.i64.wrap (128+(Int.tmod s13.1 128))))]).length) (some (.inl ((IntKind.i64.wrap (Int.tdiv s13.1 128)),(s13.2++[(Em (IntKind.i64.wrap (128+(Int.tmod s13.1 128))))]))))) (some (.inr (s13.1,s13.2)))
def ac9 (l:List Int) (s9:Int×List UInt8) (s13:Int×List UInt8):Option ((Int×List UInt8)):=bT (Ib l s9) KK s13
theorem agW (d:Nat) {l:List Int} {s9:Int×List UInt8} {s13:Int×List UInt8} {r:(Int×List UInt8)⊕((Int×List UInt8))} (h:Ib l s9 s13=some r):bJ (aU (aB aH (d+0)) KK 41 Zr) 0 (jg [1,5,6,7] (EF l s9 s13)) (aeA l s9 r):=by
 unfold Ib at h
 exact bA nB acL h (.br 25 (λ_=>.v 30 (.int .u8 ((Em (IntKind.i64.wrap (128+(Int.tmod s13.1 128)))).toNat:Int)) <| .ob (adT _:@Eq (Option AV) (some (.int .u8 (IntKind.u8.wrap (IntKind.i64.wrap (128+(Int.tmod s13.1 128)))))) (some (.int .u8 ((Em (IntKind.i64.wrap (128+(Int.tmod s13.1 128)))).toNat:Int)))) <| .gd λLW=>Ap UK 32 LW <| E0 [1,5,6,7]) λ_=>E0 [1,5,6,7])
theorem agY (d:Nat) {l:List Int} {s9:Int×List UInt8} {s13:Int×List UInt8} {r:(Int×List UInt8)} (h:ac9 l s9 s13=some r):bJ (eu (aU (aB aH (d+0)) KK 41 Zr) [1,5,6,7] KK) 0 (jg [1,5,6,7] (EF l s9 s13)) (Jg l s9 r) :=
 bY (st:=EF l s9) (fin:=Jg l s9) (step:=Ib l s9) (λe=>by (intro h;cases h)) (λs x h=>agW d h) KK s13 r h
def EG (l:List Int) (s9:Int×List UInt8):List AV×WH:=([(KT l),(.acc 0 0 1 s9.2.length true),(.int .i64 s9.1)],[(some (.cells (ML s9.2) false true))])
def Jh (l:List Int):Unit⊕(List UInt8)→Ex×Fast×WH:=fun
 | .inl e=>(.ret,[(4,(.slice none 1 0 0 true))],[])
 | .inr e=>((.exit 0),[(5,(.acc 0 0 1 e.length true))],[(some (.cells (ML e) false true))])
abbrev aeB (l:List Int):=dx [1,5,6] (EG l) (Jh l)
def Ic (l:List Int) (s9:Int×List UInt8):Option ((Int×List UInt8)⊕(Unit⊕(List UInt8))) :=
 cond (decide (s9.1 < (l.length:Int))) ((bO l s9.1).bind λ(x10:Int)=>(FT x10).bind λ(dV:Bool)=>cond (!dV) (some (.inr (.inl ()))) ((ac9 l s9 (x10,s9.2)).bind λ(bR:(Int×List UInt8))=>gd (dh 1 (bR.2++[(Em bR.1)]).length) (some (.inl ((IntKind.i64.wrap (s9.1+1)),(bR.2++[(Em bR.1)])))))) (some (.inr (.inr s9.2)))
def ada (l:List Int) (s9:Int×List UInt8):Option (Unit⊕(List UInt8)):=bT (Ic l) KK s9
theorem agZ (d:Nat) {l:List Int} {s9:Int×List UInt8} {r:(Int×List UInt8)⊕(Unit⊕(List UInt8))} (h:Ic l s9=some r):bJ (aU (aB aH (d+1)) KK 41 Zq) 0 (jg [1,5,6] (EG l s9)) (aeB l r):=by
 unfold Ic at h
 exact bA nB acK h (.br 14 (λ_=>.bd λx10 KV=>Ix Jp 19 KV <| .bd λdV IV=>iA (FU (d+0) IV) <| .br 23 (λ_=>E0 [4]) λ_=>.bd λbR KC=>Lp [none,none,none,none] [] [] (agY (d+1) KC) <| .v 37 (.int .u8 ((Em bR.1).toNat:Int)) <| .ob (adT _:@Eq (Option AV) (some (.int .u8 (IntKind.u8.wrap bR.1))) (some (.int .u8 ((Em bR.1).toNat:Int)))) <| .gd λq16=>Ap UK 39 q16 <| E0 [1,5,6]) λ_=>E0 [5])
theorem WY (d:Nat) {l:List Int} {s9:Int×List UInt8} {r:Unit⊕(List UInt8)} (h:ada l s9=some r):bJ (eu (aU (aB aH (d+1)) KK 41 Zq) [1,5,6] KK) 0 (jg [1,5,6] (EG l s9)) (Jh l r) :=
 bY (st:=EG l) (fin:=Jh l) (step:=Ic l) (λe=>by rcases e with e | e<;>(intro h;cases h)) (λs x h=>agZ d h) KK s9 r h
def RI (aY:List UInt8) (l:List Int):Option (List UInt8) :=
 gd (dh 1 aY.length) ((ada l (0,aY)).bind λ(iU:Unit⊕(List UInt8))=>cond (jI iU) (some []) (some (JE iU)))
def Z8 (aY:List UInt8) (l:List Int) (r:List UInt8):AV×WH:=((oU r),[])
theorem Om (d:Nat) {aY:List UInt8} {l:List Int} {r:List UInt8} (h:RI aY l=some r):Spec (aB aH (d+2)) 38 [(oU aY),(KT l)] [] (Z8 aY l r).1 (Z8 aY l r).2:=by
 unfold RI at h
 exact aX nB awI h (.gd λq1=>Ap0 UK 10 q1 <| .bd λiU GH=>.ite (λZ6=>Lp [none,none,none] [] [] (jA (il Z6) (WY (d+0) GH)) <| Fn Fo [] none) λZ6=>Lp [none,none,none] [] [] (jA (zy Z6) (WY (d+0) GH)) <| Fn Fo [] none)
def Ar (l:List Int) (s9:Int×List UInt8) (s13:Int×List UInt8):List AV×WH:=([(KT l),(.acc 0 0 1 s13.2.length true),(.int .i64 s9.1),(.int .i64 s13.1)],[(some (.cells (ML s13.2) false true))])
def D7 (l:List Int) (s9:Int×List UInt8):(Int×List UInt8)→Ex×Fast×WH:=λe=>((.exit 2),[(1,(KT l)),(5,(.acc 0 0 1 e.2.length true)),(6,(.int .i64 s9.1)),(7,(.int .i64 e.1))],[(some (.cells (ML e.2) false true))])
abbrev Z9 (l:List Int) (s9:Int×List UInt8):=dx [1,5,6,7] (Ar l s9) (D7 l s9)
def Cw (l:List Int) (s9:Int×List UInt8) (s13:Int×List UInt8):Option ((Int×List UInt8)⊕((Int×List UInt8))) :=
 cond (decide (s13.1≥128)) (gd (dh 1 (s13.2++[(Em (IntKind.i64.wrap (128+(Int.tmod s13.1 128))))]).length) (some (.inl ((IntKind.i64.wrap (Int.tdiv s13.1 128)),(s13.2++[(Em (IntKind.i64.wrap (128+(Int.tmod s13.1 128))))]))))) (some (.inr (s13.1,s13.2)))
def WZ (l:List Int) (s9:Int×List UInt8) (s13:Int×List UInt8):Option ((Int×List UInt8)):=bT (Cw l s9) KK s13
theorem abB (d:Nat) {l:List Int} {s9:Int×List UInt8} {s13:Int×List UInt8} {r:(Int×List UInt8)⊕((Int×List UInt8))} (h:Cw l s9 s13=some r):bJ (aU (aB aH (d+0)) KK 41 Zr) 0 (jg [1,5,6,7] (Ar l s9 s13)) (Z9 l s9 r):=by
 unfold Cw at h
 exact bA nB acL h (.br 25 (λ_=>.v 30 (.int .u8 ((Em (IntKind.i64.wrap (128+(Int.tmod s13.1 128)))).toNat:Int)) <| .ob (adT _:@Eq (Option AV) (some (.int .u8 (IntKind.u8.wrap (IntKind.i64.wrap (128+(Int.tmod s13.1 128)))))) (some (.int .u8 ((Em (IntKind.i64.wrap (128+(Int.tmod s13.1 128)))).toNat:Int)))) <| .gd λLW=>Ap UK 32 LW <| E0 [1,5,6,7]) λ_=>E0 [1,5,6,7])
theorem abC (d:Nat) {l:List Int} {s9:Int×List UInt8} {s13:Int×List UInt8} {r:(Int×List UInt8)} (h:WZ l s9 s13=some r):bJ (eu (aU (aB aH (d+0)) KK 41 Zr) [1,5,6,7] KK) 0 (jg [1,5,6,7] (Ar l s9 s13)) (D7 l s9 r) :=
 bY (st:=Ar l s9) (fin:=D7 l s9) (step:=Cw l s9) (λe=>by (intro h;cases h)) (λs x h=>abB d h) KK s13 r h
def Au (l:List Int) (s9:Int×List UInt8):List AV×WH:=([(KT l),(.acc 0 0 1 s9.2.length true),(.int .i64 s9.1)],[(some (.cells (ML s9.2) false true))])
def D8 (l:List Int):Unit⊕(List UInt8)→Ex×Fast×WH:=fun
 | .inl e=>(.ret,[(4,(.slice none 1 0 0 true))],[])
 | .inr e=>((.exit 0),[(5,(.acc 0 0 1 e.length true))],[(some (.cells (ML e) false true))])
abbrev Z_ (l:List Int):=dx [1,5,6] (Au l) (D8 l)
def Cx (l:List Int) (s9:Int×List UInt8):Option ((Int×List UInt8)⊕(Unit⊕(List UInt8))) :=
 cond (decide (s9.1 < (l.length:Int))) ((bO l s9.1).bind λ(x10:Int)=>(FT x10).bind λ(dV:Bool)=>cond (!dV) (some (.inr (.inl ()))) ((WZ l s9 (x10,s9.2)).bind λ(bR:(Int×List UInt8))=>gd (dh 1 (bR.2++[(Em bR.1)]).length) (some (.inl ((IntKind.i64.wrap (s9.1+1)),(bR.2++[(Em bR.1)])))))) (some (.inr (.inr s9.2)))
def W9 (l:List Int) (s9:Int×List UInt8):Option (Unit⊕(List UInt8)):=bT (Cx l) KK s9
theorem abD (d:Nat) {l:List Int} {s9:Int×List UInt8} {r:(Int×List UInt8)⊕(Unit⊕(List UInt8))} (h:Cx l s9=some r):bJ (aU (aB aH (d+1)) KK 41 Zq) 0 (jg [1,5,6] (Au l s9)) (Z_ l r):=by
 unfold Cx at h
 exact bA nB acK h (.br 14 (λ_=>.bd λx10 KV=>Ix Jp 19 KV <| .bd λdV IV=>iA (FU (d+0) IV) <| .br 23 (λ_=>E0 [4]) λ_=>.bd λbR KC=>Lp [none,none,none,none] [] [] (abC (d+1) KC) <| .v 37 (.int .u8 ((Em bR.1).toNat:Int)) <| .ob (adT _:@Eq (Option AV) (some (.int .u8 (IntKind.u8.wrap bR.1))) (some (.int .u8 ((Em bR.1).toNat:Int)))) <| .gd λq16=>Ap UK 39 q16 <| E0 [1,5,6]) λ_=>E0 [5])
theorem QK (d:Nat) {l:List Int} {s9:Int×List UInt8} {r:Unit⊕(List UInt8)} (h:W9 l s9=some r):bJ (eu (aU (aB aH (d+1)) KK 41 Zq) [1,5,6] KK) 0 (jg [1,5,6] (Au l s9)) (D8 l r) :=
 bY (st:=Au l) (fin:=D8 l) (step:=Cx l) (λe=>by rcases e with e | e<;>(intro h;cases h)) (λs x h=>abD d h) KK s9 r h
def aac (aY:List UInt8) (l:List Int):Option (List UInt8) :=
 gd (dh 1 aY.length) ((W9 l (0,aY)).bind λ(iU:Unit⊕(List UInt8))=>cond (jI iU) (some []) (some (JE iU)))
def wD (aY:List UInt8) (l:List Int) (r:List UInt8):AV×WH:=((.acc 0 0 1 r.length true),[(some (.cells (ML r) false true))])
theorem ajh (d:Nat) {aY:List UInt8} {l:List Int} {r:List UInt8} (h:aac aY l=some r):Spec (aB aH (d+2)) 38 [(oU aY),(KT l)] [] (wD aY l r).1 (wD aY l r).2:=by
 unfold aac at h
 exact aX nB awI h (.gd λq1=>Ap0 UK 10 q1 <| .bd λiU GH=>.ite (λZ6=>Lp [none,none,none] [] [] (jA (il Z6) (QK (d+0) GH)) <| .xP (.fin (some true) [] none) _ (λr=>@Eq AV (.acc 0 0 1 0 true) (wD aY l r).1∧@Eq WH [(some (.cells (ML []) false true))] (wD aY l r).2) (by show _∧_;refine ⟨?_, ?_⟩<;>first | rfl | (simp only [wD,List.length_set,List.length_append,List.length_replicate,List.length_cons,List.length_nil,List.length_take,List.length_drop,Nat.add_zero,Nat.zero_add];done) | simp [wD])) λZ6=>Lp [none,none,none] [] [] (jA (zy Z6) (QK (d+0) GH)) <| Fn Tw [] none)
def Cy (l:List (List UInt8)) (s6:Int×List UInt8):List AV×WH:=([(l_S l),(.acc 0 0 1 s6.2.length true),(.int .i64 s6.1)],[(some (.cells (ML s6.2) false true))])
def FY (l:List (List UInt8)):(List UInt8)→Ex×Fast×WH:=λe=>((.exit 0),[(5,(.acc 0 0 1 e.length true))],[(some (.cells (ML e) false true))])
abbrev abE (l:List (List UInt8)):=dx [1,5,6] (Cy l) (FY l)
def EH (l:List (List UInt8)) (s6:Int×List UInt8):Option ((Int×List UInt8)⊕((List UInt8))) :=
 cond (decide (s6.1 < (l.length:Int))) ((bO l s6.1).bind λ(x7:List UInt8)=>(aac s6.2 ([(x7.length:Int)])).bind λ(x8:List UInt8)=>(bO l s6.1).bind λ(x9:List UInt8)=>gd (dh 1 (x8++x9).length) (some (.inl ((IntKind.i64.wrap (s6.1+1)),(x8++x9))))) (some (.inr s6.2))
def aad (l:List (List UInt8)) (s6:Int×List UInt8):Option ((List UInt8)):=bT (EH l) KK s6
theorem aeC (d:Nat) {l:List (List UInt8)} {s6:Int×List UInt8} {r:(Int×List UInt8)⊕((List UInt8))} (h:EH l s6=some r):bJ (aU (aB aH (d+2)) KK 30 aiJ) 0 (jg [1,5,6] (Cy l s6)) (abE l r):=by
 unfold EH at h
 exact bA nB alG h (.br 13 (λ_=>.bd λx7 q7=>Ix R_S 19 q7 <| .bd λx8 q8=>Cl [] Fo [] (ajh (d+0) q8) <| .bd λx9 q9=>Ix R_S 26 q9 <| .gd λKV=>Ap UK 28 KV <| E0 [1,5,6]) λ_=>E0 [5])
theorem aeD (d:Nat) {l:List (List UInt8)} {s6:Int×List UInt8} {r:(List UInt8)} (h:aad l s6=some r):bJ (eu (aU (aB aH (d+2)) KK 30 aiJ) [1,5,6] KK) 0 (jg [1,5,6] (Cy l s6)) (FY l r) :=
 bY (st:=Cy l) (fin:=FY l) (step:=EH l) (λe=>by (intro h;cases h)) (λs x h=>aeC d h) KK s6 r h
def TW (aY:List UInt8) (l:List (List UInt8)):Option (List UInt8) :=
 gd (dh 1 aY.length) ((aad l (0,aY)).bind λ(dV:(List UInt8))=>some dV)
def W_ (aY:List UInt8) (l:List (List UInt8)) (r:List UInt8):AV×WH:=((oU r),[])
theorem Vv (d:Nat) {aY:List UInt8} {l:List (List UInt8)} {r:List UInt8} (h:TW aY l=some r):Spec (aB aH (d+3)) 85 [(oU aY),(l_S l)] [] (W_ aY l r).1 (W_ aY l r).2:=by
 unfold TW at h
 exact aX nB ayQ h (.gd λq1=>Ap0 UK 9 q1 <| .bd λdV IV=>Lp [none,none,none] [] [] (aeD (d+0) IV) <| Fn Fo [] none)
def adb (aY:List UInt8) (p_r:bn):Option (List UInt8) :=
 (qL p_r).bind λ(x1:Bool)=>cond (!x1) (some []) ((RI aY ([p_r.Client,p_r.Seq,p_r.Op.Kind])).bind λ(x2:List UInt8)=>(TW x2 ([p_r.Op.Key,p_r.Op.Value,p_r.Op.Old])).bind λ(x3:List UInt8)=>some x3)
def QL (aY:List UInt8) (p_r:bn) (r:List UInt8):AV×WH:=((oU r),[])
theorem avc (d:Nat) {aY:List UInt8} {p_r:bn} {r:List UInt8} (h:adb aY p_r=some r):Spec (aB aH (d+4)) 41 [(oU aY),(.agg (sO p_r))] [] (QL aY p_r r).1 (QL aY p_r r).2:=by
 unfold adb at h
 exact aX nB aye h (.bd λx1 q1=>iA (C_ (d+0) q1) <| .br 7 (λ_=>Fn Fo [] none) λ_=>.bd λx2 q2=>Cl [] Fo [] (Om (d+1) q2) <| .bd λx3 q3=>Cl [] Fo [] (Vv (d+0) q3) <| Fn Fo [] none)
def K6 (aY:List UInt8) (a:aD):Option (List UInt8) :=
 (wz a).bind λ(x1:Bool)=>cond (!x1) (some []) ((RI aY [a.Why]).bind λ(x2:List UInt8)=>(TW x2 [a.Value]).bind λ(x3:List UInt8)=>some x3)
def Ke (aY:List UInt8) (a:aD) (r:List UInt8):AV×WH:=((oU r),[])
theorem aae (d:Nat) {aY:List UInt8} {a:aD} {r:List UInt8} (h:K6 aY a=some r):Spec (aB aH (d+4)) 40 [(oU aY),(.agg (dQ a))] [] (Ke aY a r).1 (Ke aY a r).2:=by
 unfold K6 at h
 exact aX nB ayd h (.bd λx1 q1=>iA (FN (d+2) q1) <| .br 7 (λ_=>Fn Fo [] none) λ_=>.bd λx2 q2=>Cl [] Fo [] (Om (d+1) q2) <| .bd λx3 q3=>Cl [] Fo [] (Vv (d+0) q3) <| Fn Fo [] none)
def tT (aS:aA) (s6:List UInt8×Int):List AV×WH:=([(.ptr (some (0,0))),(oU s6.1),(.int .i64 s6.2)],[(some (.cells (bI aS) false false))])
def za (aS:aA):(List UInt8)→Ex×Fast×WH:=λe=>((.exit 0),[(3,(.ptr (some (0,0)))),(5,(oU e))],[(some (.cells (bI aS) false false))])
abbrev TY (aS:aA):=dx [3,5,6] (tT aS) (za aS)
def wE (aS:aA) (s6:List UInt8×Int):Option ((List UInt8×Int)⊕((List UInt8))) :=
 cond (decide (s6.2 < (aS.Pairs.length:Int))) ((bO aS.Pairs s6.2).bind λ(x7:au)=>(bO aS.Pairs s6.2).bind λ(x8:au)=>(TW s6.1 ([x7.Key,x8.Value])).bind λ(x9:List UInt8)=>some (.inl (x9,(IntKind.i64.wrap (s6.2+1))))) (some (.inr s6.1))
def Oo (aS:aA) (s6:List UInt8×Int):Option ((List UInt8)):=bT (wE aS) KK s6
theorem Vw (d:Nat) {aS:aA} {s6:List UInt8×Int} {r:(List UInt8×Int)⊕((List UInt8))} (h:wE aS s6=some r):bJ (aU (aB aH (d+3)) KK 79 aiu) 0 (jg [3,5,6] (tT aS s6)) (TY aS r):=by
 unfold wE at h
 exact bA nB alm h (.br 25 (λ_=>.bd λx7 q7=>Ix aQ 32 q7 <| .bd λx8 q8=>Ix aQ 38 q8 <| .bd λx9 q9=>Cl [] Fo [] (Vv (d+0) q9) <| E0 [3,5,6]) λ_=>E0 [3,5])
theorem Vx (d:Nat) {aS:aA} {s6:List UInt8×Int} {r:(List UInt8)} (h:Oo aS s6=some r):bJ (eu (aU (aB aH (d+3)) KK 79 aiu) [3,5,6] KK) 0 (jg [3,5,6] (tT aS s6)) (za aS r) :=
 bY (st:=tT aS) (fin:=za aS) (step:=wE aS) (λe=>by (intro h;cases h)) (λs x h=>Vw d h) KK s6 r h
def tV (aS:aA) (s17:List UInt8×Int):List AV×WH:=([(.ptr (some (0,0))),(oU s17.1),(.int .i64 s17.2)],[(some (.cells (bI aS) false false))])
def ze (aS:aA):(List UInt8)→Ex×Fast×WH:=λe=>((.exit 2),[(5,(oU e))],[])
abbrev T9 (aS:aA):=dx [3,5,7] (tV aS) (ze aS)
def wF (aS:aA) (s17:List UInt8×Int):Option ((List UInt8×Int)⊕((List UInt8))) :=
 cond (decide (s17.2 < (aS.dX.length:Int))) ((bO aS.dX s17.2).bind λ(x18:ak)=>(bO aS.dX s17.2).bind λ(om:ak)=>(RI s17.1 ([x18.Client,om.Seq])).bind λ(x20:List UInt8)=>(bO aS.dX s17.2).bind λ(x21:ak)=>(K6 x20 x21.Answer).bind λ(Fa:List UInt8)=>some (.inl (Fa,(IntKind.i64.wrap (s17.2+1))))) (some (.inr s17.1))
def Oq (aS:aA) (s17:List UInt8×Int):Option ((List UInt8)):=bT (wF aS) KK s17
theorem Vy (d:Nat) {aS:aA} {s17:List UInt8×Int} {r:(List UInt8×Int)⊕((List UInt8))} (h:wF aS s17=some r):bJ (aU (aB aH (d+4)) KK 79 aiv) 0 (jg [3,5,7] (tV aS s17)) (T9 aS r):=by
 unfold wF at h
 exact bA nB aln h (.br 53 (λ_=>.bd λx18 Vk=>Ix bS 60 Vk <| .bd λom QG=>Ix bS 66 QG <| .bd λx20 q20=>Cl [] Fo [] (Om (d+2) q20) <| .er <| .ob (rfl:@Eq (Option AV) (some (dD aS.dX)) (some (dD aS.dX))) <| .bd λx21 q21=>Ix bS 74 q21 <| .bd λFa q22=>Cl [] Fo [] (aae (d+0) q22) <| E0 [3,5,7]) λ_=>E0 [5])
theorem Vz (d:Nat) {aS:aA} {s17:List UInt8×Int} {r:(List UInt8)} (h:Oq aS s17=some r):bJ (eu (aU (aB aH (d+4)) KK 79 aiv) [3,5,7] KK) 0 (jg [3,5,7] (tV aS s17)) (ze aS r) :=
 bY (st:=tV aS) (fin:=ze aS) (step:=wF aS) (λe=>by (intro h;cases h)) (λs x h=>Vy d h) KK s17 r h
def Xa (aY:List UInt8) (aS:aA):Option (List UInt8) :=
 (uS aS).bind λ(x1:Bool)=>cond (!x1) (some []) ((RI aY ([aS.eY,aS.Epoch,(aS.Pairs.length:Int)])).bind λ(x2:List UInt8)=>(Oo aS (x2,0)).bind λ(x10:(List UInt8))=>(RI x10 ([(aS.dX.length:Int)])).bind λ(dV:List UInt8)=>(Oq aS (dV,0)).bind λ(x23:(List UInt8))=>some x23)
def L_ (aY:List UInt8) (aS:aA) (r:List UInt8):AV×WH:=((oU r),[])
theorem aqM (d:Nat) {aY:List UInt8} {aS:aA} {r:List UInt8} (h:Xa aY aS=some r):Spec (aB aH (d+7)) 42 [(oU aY),(.agg (bI aS))] [] (L_ aY aS r).1 (L_ aY aS r).2:=by
 unfold Xa at h
 exact aX nB ayf h (.bd λx1 q1=>Cb [.agg [.undef,.undef,.slice none 2 0 0 true,.slice none 4 0 0 true]] (Jf (d+0) q1) <| .br 10 (λ_=>Fn Fo [] none) λ_=>.bd λx2 q2=>Cl [] Fo [] (Om (d+4) q2) <| .bd λx10 KV=>Lp [none,none,none] [] [] (Vx (d+3) KV) <| .bd λdV IV=>Cl [] Fo [] (Om (d+4) IV) <| .bd λx23 q23=>Lp [none,none,none] [] [] (Vz (d+2) q23) <| Fn Fo [] none)
def Di (m:aF):Option (List Int) :=
 some [m.Kind,m.From,m.To,m.eY,m.Epoch,m.Weight,m.Load,m.qm]
def T_ (m:aF) (r:List Int):AV×WH:=((KT r),[])
theorem K7 (d:Nat) {m:aF} {r:List Int} (h:Di m=some r):Spec (aB aH (d+1)) 46 [(.agg (bX m))] [] (T_ m r).1 (T_ m r).2:=by
 unfold Di at h
 exact aX nB ayj h (Fn Fo [] none)
def uT (n:Int):Option (Bool) :=
 cond (decide (n≥0)) (some (decide (n≤4611686018427387903))) (some false)
def Ot (n:Int) (r:Bool):AV×WH:=((.bool r),[])
theorem EI (d:Nat) {n:Int} {r:Bool} (h:uT n=some r):Spec (aB aH (d+1)) 44 [(.int .i64 n)] [] (Ot n r).1 (Ot n r).2:=by
 unfold uT at h
 exact aX nB ayh h (.br 5 (λ_=>Fn Fo [] none) λ_=>Fn Fo [] none)
def Ie (n:Int):Option (Bool) :=
 (uT n).bind λ(x1:Bool)=>some (!x1)
def Ma (n:Int) (r:Bool):AV×WH:=((.bool r),[])
theorem abF (d:Nat) {n:Int} {r:Bool} (h:Ie n=some r):Spec (aB aH (d+2)) 43 [(.int .i64 n)] [] (Ma n r).1 (Ma n r).2:=by
 unfold Ie at h
 exact aX nB ayg h (.bd λx1 q1=>iA (EI (d+0) q1) <| Fn Fo [] none)
def iH (a0:List Int) (s3:Int):List AV×WH:=([(KT a0),(.func 43 []),(.int .i64 (a0.length:Int)),(.int .i64 s3)],[])
def jY (a0:List Int):Int⊕Unit→Ex×Fast×WH:=fun
 | .inl e=>(.ret,[(4,(.int .i64 e))],[])
 | .inr e=>((.exit 0),[],[])
abbrev BX (a0:List Int):=dx [0,1,7,8] (iH a0) (jY a0)
def eZ (a0:List Int) (s3:Int):Option ((Int)⊕(Int⊕Unit)) :=
 cond (decide (s3 < (a0.length:Int))) ((bO a0 s3).bind λ(x4:Int)=>(Ie x4).bind λ(x5:Bool)=>cond x5 (some (.inr (.inl s3))) (some (.inl (IntKind.i64.wrap (s3+1))))) (some (.inr (.inr ())))
def mE (a0:List Int) (s3:Int):Option (Int⊕Unit):=bT (eZ a0) KK s3
theorem Dj (d:Nat) {a0:List Int} {s3:Int} {r:(Int)⊕(Int⊕Unit)} (h:eZ a0 s3=some r):bJ (aU (aB aH (d+2)) KK 19 aiK) 0 (jg [0,1,7,8] (iH a0 s3)) (BX a0 r):=by
 unfold eZ at h
 exact bA nB alI h (.br 9 (λ_=>.bd λx4 q4=>Ix Jp 14 q4 <| .bd λx5 q5=>iA (abF (d+0) q5) <| .br 16 (λ_=>E0 [4]) λ_=>E0 [0,1,7,8]) λ_=>E0 [])
theorem ru (d:Nat) {a0:List Int} {s3:Int} {r:Int⊕Unit} (h:mE a0 s3=some r):bJ (eu (aU (aB aH (d+2)) KK 19 aiK) [0,1,7,8] KK) 0 (jg [0,1,7,8] (iH a0 s3)) (jY a0 r) :=
 bY (st:=iH a0) (fin:=jY a0) (step:=eZ a0) (λe=>by rcases e with e | e<;>(intro h;cases h)) (λs x h=>Dj d h) KK s3 r h
def kW (a0:List Int):Option (Int) :=
 (mE a0 0).bind λ(x6:Int⊕Unit)=>cond (jI x6) (some (CV x6)) (some (-1))
def sJ (a0:List Int) (r:Int):AV×WH:=((.int .i64 r),[])
theorem FZ (d:Nat) {a0:List Int} {r:Int} (h:kW a0=some r):Spec (aB aH (d+3)) 86 [(KT a0),(.func 43 [])] [] (sJ a0 r).1 (sJ a0 r).2:=by
 unfold kW at h
 exact aX nB ayR h (.bd λx6 q6=>.ite (λDW=>Lp [none,none,none,none] [] [] (jA (il DW) (ru (d+0) q6)) <| Fn Fo [] none) λDW=>Lp [none,none,none,none] [] [] (jA (zy DW) (ru (d+0) q6)) <| Fn Fo [] none)
def gu (a0:List Int):Option (Bool) :=
 (kW a0).bind λ(x1:Int)=>some (decide (x1≥0))
def qp (a0:List Int) (r:Bool):AV×WH:=((.bool r),[])
theorem rz (d:Nat) {a0:List Int} {r:Bool} (h:gu a0=some r):Spec (aB aH (d+4)) 45 [(KT a0),(.func 43 [])] [] (qp a0 r).1 (qp a0 r).2:=by
 unfold gu at h
 exact aX nB ayi h (.bd λx1 q1=>iA (FZ (d+0) q1) <| Fn Fo [] none)
end Go.Proofs.YtohoggieaanllaaGreat
