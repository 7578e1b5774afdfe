import Derived.Test.YtohoggieaanllaaGreatXt
import Derived.Test.YtohoggieaanllaaGreatXs
import Derived.Test.YtohoggieaanllaaGreatY4
set_option linter.all false
set_option maxRecDepth 100000
namespace Go.Proofs.YtohoggieaanllaaGreat
def CB (m:aF) (qA:List UInt8×Int):List AV×WH:=([(.ptr (some (0,0))),(oU qA.1),(dW m.Table),(.int .i64 (m.Table.length:Int)),(.int .i64 qA.2)],[(some (.cells (bX m) false false))])
def Gb (m:aF):(List UInt8)→Ex×Fast×WH:=λe=>((.exit 0),[(1,(.ptr (some (0,0)))),(3,(oU e))],[(some (.cells (bX m) false false))])
abbrev abM (m:aF):=dx [1,3,40,41,42] (CB m) (Gb m)
def wM (m:aF) (qA:List UInt8×Int):Option ((List UInt8×Int)⊕((List UInt8))) :=
 cond (decide (qA.2 < (m.Table.length:Int))) ((bO m.Table qA.2).bind λ(bR:av)=>(Uj bR.dR).bind λ(yY:Int)=>(mg qA.1 ([bR.Inc,bR.Status,bR.ql,bR.Load,yY])).bind λ(iU:List UInt8)=>some (.inl (iU,(IntKind.i64.wrap (qA.2+1))))) (some (.inr qA.1))
def K_ (m:aF) (qA:List UInt8×Int):Option ((List UInt8)):=bT (wM m) KK qA
theorem aeG (d:Nat) {m:aF} {qA:List UInt8×Int} {r:(List UInt8×Int)⊕((List UInt8))} (h:wM m qA=some r):bJ (aU (aB aH (d+2)) KK 65 aie) 0 (jg [1,3,40,41,42] (CB m qA)) (abM m r):=by
 unfold wM at h
 exact bA nB ale h (.br 43 (λ_=>.bd λbR KC=>Ix mJ 44 KC <| .st none <| .bd λyY q16=>iA (ade (d+1) q16) <| .bd λiU GH=>Cl [] Fo [] (nI (d+0) GH) <| E1 [1,3,40,41,42] [none,none,none,none,none] [] [.undef,.undef,.slice none 5 0 0 true,.undef,.undef]) λ_=>E0 [1,3])
theorem aeH (d:Nat) {m:aF} {qA:List UInt8×Int} {r:(List UInt8)} (h:K_ m qA=some r):bJ (eu (aU (aB aH (d+2)) KK 65 aie) [1,3,40,41,42] KK) 0 (jg [1,3,40,41,42] (CB m qA)) (Gb m r) :=
 bY (st:=CB m) (fin:=Gb m) (step:=wM m) (λe=>by (intro h;cases h)) (λs x h=>aeG d h) KK qA r h
def PO (m:aF):Option (List UInt8) :=
 (zK m).bind λ(x1:Bool)=>cond (!x1) (some []) ((Di m).bind λ(x2:List Int)=>(mg [] x2).bind λ(x3:List UInt8)=>(Uj m.dR).bind λ(x4:Int)=>(mg x3 [x4]).bind λ(x5:List UInt8)=>(AY x5 m.IK).bind λ(x6:List UInt8)=>(oH x6 m.Answer).bind λ(x7:List UInt8)=>(mg x7 ([(m.Path.length:Int)])).bind λ(x8:List UInt8)=>(mg x8 m.Path).bind λ(x9:List UInt8)=>(mg x9 ([(m.Table.length:Int)])).bind λ(x10:List UInt8)=>(K_ m (x10,0)).bind λ(x18:(List UInt8))=>(vg x18 m.xg).bind λ(om:List UInt8)=>some om)
def Xc (m:aF) (r:List UInt8):AV×WH:=((oU r),[])
theorem adf (d:Nat) {m:aF} {r:List UInt8} (h:PO m=some r):Spec (aB aH (d+12)) 12 [(.agg (bX m))] [] (Xc m r).1 (Xc m r).2:=by
 unfold PO at h
 exact aX nB axY h (.bd λx1 q1=>Cb [.agg [.undef,.undef,.undef,.undef,.undef,.undef,.undef,.undef,.undef,.undef,.undef,.undef,.undef,.undef,.undef,.undef,.undef,.slice none 1 0 0 true,.slice none 5 0 0 true,.undef,.undef,.slice none 2 0 0 true,.slice none 4 0 0 true]] (Ii (d+0) q1) <| .br 8 (λ_=>Fn Fo [] none) λ_=>.bd λx2 q2=>Cl [] Fo [.agg [.undef,.undef,.undef,.undef,.undef,.undef,.undef,.undef,.undef,.undef,.undef,.undef,.undef,.undef,.undef,.undef,.undef,.slice none 1 0 0 true,.slice none 5 0 0 true,.undef,.undef,.slice none 2 0 0 true,.slice none 4 0 0 true]] (K7 (d+10) q2) <| .bd λx3 q3=>Cl [] Fo [] (nI (d+9) q3) <| .bd λx4 q4=>iA (ade (d+10) q4) <| .bd λx5 q5=>Cl [] Fo [] (nI (d+9) q5) <| .bd λx6 q6=>Cl [] Fo [] (aan (d+7) q6) <| .bd λx7 q7=>Cl [] Fo [] (Ij (d+7) q7) <| .bd λx8 q8=>Cl [] Fo [] (nI (d+9) q8) <| .er <| .ob (rfl:@Eq (Option AV) (some (KT m.Path)) (some (KT m.Path))) <| .bd λx9 q9=>Cl [] Fo [] (nI (d+9) q9) <| .bd λx10 KV=>Cl [] Fo [] (nI (d+9) KV) <| .bd λx18 Vk=>Lp [none,none,none,none,none] [] [.undef,.undef,.slice none 5 0 0 true,.undef,.undef] (aeH (d+9) Vk) <| .bd λom QG=>Cl [] Fo [.undef,.agg [.undef,.undef,.slice none 2 0 0 true,.slice none 4 0 0 true]] (VP (d+0) QG) <| Fn Fo [] none)
def jN (a0:List Int) (a1:List Int) (s3:Int):List AV×WH:=([(KT a0),(KT a1),(.int .i64 (a0.length:Int)),(.int .i64 s3)],[])
def mG (a0:List Int) (a1:List Int):Unit⊕Unit→Ex×Fast×WH:=fun
 | .inl e=>(.ret,[(4,(.bool false))],[])
 | .inr e=>((.exit 0),[],[])
abbrev Gc (a0:List Int) (a1:List Int):=dx [0,1,12,13] (jN a0 a1) (mG a0 a1)
def j5 (a0:List Int) (a1:List Int) (s3:Int):Option ((Int)⊕(Unit⊕Unit)) :=
 cond (decide (s3 < (a0.length:Int))) ((bO a0 s3).bind λ(x4:Int)=>(bO a1 s3).bind λ(x5:Int)=>cond (x4 != x5) (some (.inr (.inl ()))) (some (.inl (IntKind.i64.wrap (s3+1))))) (some (.inr (.inr ())))
def zL (a0:List Int) (a1:List Int) (s3:Int):Option (Unit⊕Unit):=bT (j5 a0 a1) KK s3
theorem GY (d:Nat) {a0:List Int} {a1:List Int} {s3:Int} {r:(Int)⊕(Unit⊕Unit)} (h:j5 a0 a1 s3=some r):bJ (aU (aB aH (d+0)) KK 26 aiz) 0 (jg [0,1,12,13] (jN a0 a1 s3)) (Gc a0 a1 r):=by
 unfold j5 at h
 exact bA nB als h (.br 14 (λ_=>.bd λx4 q4=>Ix Jp 18 q4 <| .bd λx5 q5=>Ix Jp 22 q5 <| .br 24 (λ_=>E0 [4]) λ_=>E0 [0,1,12,13]) λ_=>E0 [])
theorem xq (d:Nat) {a0:List Int} {a1:List Int} {s3:Int} {r:Unit⊕Unit} (h:zL a0 a1 s3=some r):bJ (eu (aU (aB aH (d+0)) KK 26 aiz) [0,1,12,13] KK) 0 (jg [0,1,12,13] (jN a0 a1 s3)) (mG a0 a1 r) :=
 bY (st:=jN a0 a1) (fin:=mG a0 a1) (step:=j5 a0 a1) (λe=>by rcases e with e | e<;>(intro h;cases h)) (λs x h=>GY d h) KK s3 r h
def pQ (a0:List Int) (a1:List Int):Option (Bool) :=
 cond ((a0.length:Int) != (a1.length:Int)) (some false) ((zL a0 a1 0).bind λ(x6:Unit⊕Unit)=>cond (jI x6) (some false) (some true))
def yw (a0:List Int) (a1:List Int) (r:Bool):AV×WH:=((.bool r),[])
theorem AZ (d:Nat) {a0:List Int} {a1:List Int} {r:Bool} (h:pQ a0 a1=some r):Spec (aB aH (d+1)) 60 [(KT a0),(KT a1)] [] (yw a0 a1 r).1 (yw a0 a1 r).2:=by
 unfold pQ at h
 exact aX nB ayw h (.br 10 (λ_=>Fn Fo [] none) λ_=>.bd λx6 q6=>.ite (λDW=>Lp [none,none,none,none] [] [] (jA (il DW) (xq (d+0) q6)) <| Fn Fo [] none) λDW=>Lp [none,none,none,none] [] [] (jA (zy DW) (xq (d+0) q6)) <| Fn Fo [] none)
def fV (a0:List av) (a1:List av) (s3:Int):List AV×WH:=([(dW a0),(dW a1),(.int .i64 (a0.length:Int)),(.int .i64 s3)],[])
def ig (a0:List av) (a1:List av):Unit⊕Unit→Ex×Fast×WH:=fun
 | .inl e=>(.ret,[(4,(.bool false))],[])
 | .inr e=>((.exit 0),[],[])
abbrev vk (a0:List av) (a1:List av):=dx [0,1,12,13] (fV a0 a1) (ig a0 a1)
def gB (a0:List av) (a1:List av) (s3:Int):Option ((Int)⊕(Unit⊕Unit)) :=
 cond (decide (s3 < (a0.length:Int))) ((bO a0 s3).bind λ(x4:av)=>(bO a1 s3).bind λ(x5:av)=>cond (!(x4.Inc==x5.Inc&&(x4.Status==x5.Status&&(x4.ql==x5.ql&&(x4.Load==x5.Load&&(x4.dR==x5.dR&&true)))))) (some (.inr (.inl ()))) (some (.inl (IntKind.i64.wrap (s3+1))))) (some (.inr (.inr ())))
def mQ (a0:List av) (a1:List av) (s3:Int):Option (Unit⊕Unit):=bT (gB a0 a1) KK s3
theorem wO (d:Nat) {a0:List av} {a1:List av} {s3:Int} {r:(Int)⊕(Unit⊕Unit)} (h:gB a0 a1 s3=some r):bJ (aU (aB aH (d+0)) KK 26 aiA) 0 (jg [0,1,12,13] (fV a0 a1 s3)) (vk a0 a1 r):=by
 unfold gB at h
 exact bA nB alv h (.br 14 (λ_=>.bd λx4 q4=>Ix mJ 18 q4 <| .bd λx5 q5=>Ix mJ 22 q5 <| .br 24 (λ_=>E0 [4]) λ_=>E1 [0,1,12,13] [none,none,none,none] [] [.slice none 5 0 0 true,.slice none 5 0 0 true,.undef,.undef]) λ_=>E0 [])
theorem lN (d:Nat) {a0:List av} {a1:List av} {s3:Int} {r:Unit⊕Unit} (h:mQ a0 a1 s3=some r):bJ (eu (aU (aB aH (d+0)) KK 26 aiA) [0,1,12,13] KK) 0 (jg [0,1,12,13] (fV a0 a1 s3)) (ig a0 a1 r) :=
 bY (st:=fV a0 a1) (fin:=ig a0 a1) (step:=gB a0 a1) (λe=>by rcases e with e | e<;>(intro h;cases h)) (λs x h=>wO d h) KK s3 r h
def jO (a0:List av) (a1:List av):Option (Bool) :=
 cond ((a0.length:Int) != (a1.length:Int)) (some false) ((mQ a0 a1 0).bind λ(x6:Unit⊕Unit)=>cond (jI x6) (some false) (some true))
def mh (a0:List av) (a1:List av) (r:Bool):AV×WH:=((.bool r),[])
theorem zh (d:Nat) {a0:List av} {a1:List av} {r:Bool} (h:jO a0 a1=some r):Spec (aB aH (d+1)) 61 [(dW a0),(dW a1)] [] (mh a0 a1 r).1 (mh a0 a1 r).2:=by
 unfold jO at h
 exact aX nB ayx h (.br 10 (λ_=>Fn Fo [] none) λ_=>.bd λx6 q6=>.ite (λDW=>Lp [none,none,none,none] [] [.slice none 5 0 0 true,.slice none 5 0 0 true,.undef,.undef] (jA (il DW) (lN (d+0) q6)) <| Fn Fo [] none) λDW=>Lp [none,none,none,none] [] [.slice none 5 0 0 true,.slice none 5 0 0 true,.undef,.undef] (jA (zy DW) (lN (d+0) q6)) <| Fn Fo [] none)
def VQ (a:aA) (aY:aA):Option (Bool) :=
 cond (a.eY==aY.eY) (cond (a.Epoch==aY.Epoch) ((fI a.Pairs aY.Pairs).bind λ(x1:Bool)=>cond x1 ((fJ a.dX aY.dX).bind λ(x2:Bool)=>some x2) (some false)) (some false)) (some false)
def QX (a:aA) (aY:aA) (r:Bool):AV×WH:=((.bool r),[])
theorem ag1 (d:Nat) {a:aA} {aY:aA} {r:Bool} (h:VQ a aY=some r):Spec (aB aH (d+2)) 62 [(.agg (bI a)),(.agg (bI aY))] [] (QX a aY r).1 (QX a aY r).2:=by
 unfold VQ at h
 exact aX nB ayy h (.br 10 (λ_=>.br 17 (λ_=>.bd λx1 q1=>Cb [.slice none 2 0 0 true,.slice none 2 0 0 true] (pI (d+0) q1) <| .br 24 (λ_=>.bd λx2 q2=>Cb [.slice none 4 0 0 true,.slice none 4 0 0 true] (pJ (d+0) q2) <| Fn Fo [] none) λ_=>Fn Fo [] none) λ_=>Fn Fo [] none) λ_=>Fn Fo [] none)
def ag2 (a:aF) (aY:aF):Option (Bool) :=
 (Di a).bind λ(x1:List Int)=>(Di aY).bind λ(x2:List Int)=>(pQ x1 x2).bind λ(x3:Bool)=>cond x3 (cond (a.dR==aY.dR) (cond (a.IK.Client==aY.IK.Client&&(a.IK.Seq==aY.IK.Seq&&(a.IK.Op.Kind==aY.IK.Op.Kind&&(a.IK.Op.Key==aY.IK.Op.Key&&(a.IK.Op.Value==aY.IK.Op.Value&&(a.IK.Op.Old==aY.IK.Op.Old&&true)))))) (cond (a.Answer.Why==aY.Answer.Why&&(a.Answer.Value==aY.Answer.Value&&true)) ((pQ a.Path aY.Path).bind λ(x4:Bool)=>cond x4 ((jO a.Table aY.Table).bind λ(x5:Bool)=>cond x5 ((VQ a.xg aY.xg).bind λ(x6:Bool)=>some x6) (some false)) (some false)) (some false)) (some false)) (some false)) (some false)
def Ul (a:aF) (aY:aF) (r:Bool):AV×WH:=((.bool r),[])
theorem avT (d:Nat) {a:aF} {aY:aF} {r:Bool} (h:ag2 a aY=some r):Spec (aB aH (d+3)) 13 [(.agg (bX a)),(.agg (bX aY))] [] (Ul a aY r).1 (Ul a aY r).2:=by
 unfold ag2 at h
 exact aX nB axZ h (.bd λx1 q1=>Cl [] Fo [.agg [.undef,.undef,.undef,.undef,.undef,.undef,.undef,.undef,.undef,.undef,.undef,.undef,.undef,.undef,.undef,.undef,.undef,.slice none 1 0 0 true,.slice none 5 0 0 true,.undef,.undef,.slice none 2 0 0 true,.slice none 4 0 0 true]] (K7 (d+1) q1) <| .bd λx2 q2=>Cl [] Fo [.agg [.undef,.undef,.undef,.undef,.undef,.undef,.undef,.undef,.undef,.undef,.undef,.undef,.undef,.undef,.undef,.undef,.undef,.slice none 1 0 0 true,.slice none 5 0 0 true,.undef,.undef,.slice none 2 0 0 true,.slice none 4 0 0 true]] (K7 (d+1) q2) <| .bd λx3 q3=>iA (AZ (d+1) q3) <| .br 10 (λ_=>.br 17 (λ_=>.br 24 (λ_=>.br 31 (λ_=>.bd λx4 q4=>iA (AZ (d+1) q4) <| .br 38 (λ_=>.bd λx5 q5=>Cb [.slice none 5 0 0 true,.slice none 5 0 0 true] (zh (d+1) q5) <| .br 45 (λ_=>.bd λx6 q6=>Cb [.agg [.undef,.undef,.slice none 2 0 0 true,.slice none 4 0 0 true],.agg [.undef,.undef,.slice none 2 0 0 true,.slice none 4 0 0 true]] (ag1 (d+0) q6) <| Fn Fo [] none) λ_=>Fn Fo [] none) λ_=>Fn Fo [] none) λ_=>Fn Fo [] none) λ_=>Fn Fo [] none) λ_=>Fn Fo [] none) λ_=>Fn Fo [] none)
def rX (a:List av) (aY:List av) (s3:Int):List AV×WH:=([(dW a),(dW aY),(.int .i64 s3)],[])
def xJ (a:List av) (aY:List av):Unit⊕Unit→Ex×Fast×WH:=fun
 | .inl e=>(.ret,[(4,(.bool false))],[])
 | .inr e=>((.exit 0),[],[])
abbrev RX (a:List av) (aY:List av):=dx [0,1,5] (rX a aY) (xJ a aY)
def pR (a:List av) (aY:List av) (s3:Int):Option ((Int)⊕(Unit⊕Unit)) :=
 cond (decide (s3 < (a.length:Int))) ((bO a s3).bind λ(x4:av)=>(bO aY s3).bind λ(x5:av)=>cond (!(x4.Inc==x5.Inc&&(x4.Status==x5.Status&&(x4.ql==x5.ql&&(x4.Load==x5.Load&&(x4.dR==x5.dR&&true)))))) (some (.inr (.inl ()))) (some (.inl (IntKind.i64.wrap (s3+1))))) (some (.inr (.inr ())))
def Ec (a:List av) (aY:List av) (s3:Int):Option (Unit⊕Unit):=bT (pR a aY) KK s3
theorem Um (d:Nat) {a:List av} {aY:List av} {s3:Int} {r:(Int)⊕(Unit⊕Unit)} (h:pR a aY s3=some r):bJ (aU (aB aH (d+0)) KK 26 aiB) 0 (jg [0,1,5] (rX a aY s3)) (RX a aY r):=by
 unfold pR at h
 exact bA nB aly h (.br 14 (λ_=>.bd λx4 q4=>Ix mJ 19 q4 <| .bd λx5 q5=>Ix mJ 23 q5 <| .br 25 (λ_=>E0 [4]) λ_=>E1 [0,1,5] [none,none,none] [] [.slice none 5 0 0 true,.slice none 5 0 0 true,.undef]) λ_=>E0 [])
theorem Ik (d:Nat) {a:List av} {aY:List av} {s3:Int} {r:Unit⊕Unit} (h:Ec a aY s3=some r):bJ (eu (aU (aB aH (d+0)) KK 26 aiB) [0,1,5] KK) 0 (jg [0,1,5] (rX a aY s3)) (xJ a aY r) :=
 bY (st:=rX a aY) (fin:=xJ a aY) (step:=pR a aY) (λe=>by rcases e with e | e<;>(intro h;cases h)) (λs x h=>Um d h) KK s3 r h
def A8 (a:List av) (aY:List av):Option (Bool) :=
 cond ((a.length:Int) != (aY.length:Int)) (some false) ((Ec a aY 0).bind λ(x6:Unit⊕Unit)=>cond (jI x6) (some false) (some true))
def Kl (a:List av) (aY:List av) (r:Bool):AV×WH:=((.bool r),[])
theorem aao (d:Nat) {a:List av} {aY:List av} {r:Bool} (h:A8 a aY=some r):Spec (aB aH (d+1)) 63 [(dW a),(dW aY)] [] (Kl a aY r).1 (Kl a aY r).2:=by
 unfold A8 at h
 exact aX nB ayz h (.br 10 (λ_=>Fn Fo [] none) λ_=>.bd λx6 q6=>.ite (λDW=>Lp [none,none,none] [] [.slice none 5 0 0 true,.slice none 5 0 0 true,.undef] (jA (il DW) (Ik (d+0) q6)) <| Fn Fo [] none) λDW=>Lp [none,none,none] [] [.slice none 5 0 0 true,.slice none 5 0 0 true,.undef] (jA (zy DW) (Ik (d+0) q6)) <| Fn Fo [] none)
abbrev VT (a:aF) (aY:aF):Fast×WH:=([(2,(.ptr (some (0,0)))),(3,(.ptr (some (1,0))))],[(some (.cells (bX a) false false)),(some (.cells (bX aY) false false))])
def Un (a:aF) (aY:aF):Unit⊕Unit→Ex×Fast×WH:=fun
 | .inl e=>(.ret,[(4,(.bool false))],[])
 | .inr e=>(.normal,[(2,(.ptr (some (0,0)))),(3,(.ptr (some (1,0))))],[(some (.cells (bX a) false false)),(some (.cells (bX aY) false false))])
def CF (a:aF) (aY:aF):Option (Unit⊕Unit) :=
 cond (a.Kind != aY.Kind) (some (.inl ())) (cond (a.From != aY.From) (some (.inl ())) (cond (a.To != aY.To) (some (.inl ())) (cond (a.eY != aY.eY) (some (.inl ())) (cond (a.Epoch != aY.Epoch) (some (.inl ())) (cond (a.Weight != aY.Weight) (some (.inl ())) (cond (a.Load != aY.Load) (some (.inl ())) (cond (a.qm != aY.qm) (some (.inl ())) (cond (!(a.dR==aY.dR)) (some (.inl ())) (cond (!(a.IK.Client==aY.IK.Client&&(a.IK.Seq==aY.IK.Seq&&(a.IK.Op.Kind==aY.IK.Op.Kind&&(a.IK.Op.Key==aY.IK.Op.Key&&(a.IK.Op.Value==aY.IK.Op.Value&&(a.IK.Op.Old==aY.IK.Op.Old&&true))))))) (some (.inl ())) (cond (!(a.Answer.Why==aY.Answer.Why&&(a.Answer.Value==aY.Answer.Value&&true))) (some (.inl ())) (cond ((a.Path.length:Int) != (aY.Path.length:Int)) (some (.inl ())) ((A8 a.Table aY.Table).bind λ(x1:Bool)=>cond (!x1) (some (.inl ())) (some (.inr ()))))))))))))))
theorem Mg (d:Nat) {a:aF} {aY:aF} {r:Unit⊕Unit} (h:CF a aY=some r):bJ (aU (aB aH (d+1)) KK 121 akf) 0 (VT a aY) (Un a aY r):=by
 unfold CF at h
 exact bA nB aii h (.br 11 (λ_=>E0 [4]) λ_=>.br 18 (λ_=>E0 [4]) λ_=>.br 25 (λ_=>E0 [4]) λ_=>.br 32 (λ_=>E0 [4]) λ_=>.br 39 (λ_=>E0 [4]) λ_=>.br 46 (λ_=>E0 [4]) λ_=>.br 53 (λ_=>E0 [4]) λ_=>.br 60 (λ_=>E0 [4]) λ_=>.br 67 (λ_=>E0 [4]) λ_=>.br 74 (λ_=>E0 [4]) λ_=>.br 81 (λ_=>E0 [4]) λ_=>.br 90 (λ_=>E0 [4]) λ_=>.bd λx1 q1=>Cb [.slice none 5 0 0 true,.slice none 5 0 0 true] (aao (d+0) q1) <| .br 97 (λ_=>E0 [4]) λ_=>E0 [2,3])
def wQ (a:aF) (aY:aF) (s6:Int):List AV×WH:=([(.ptr (some (0,0))),(.ptr (some (1,0))),(.int .i64 s6)],[(some (.cells (bX a) false false)),(some (.cells (bX aY) false false))])
def A9 (a:aF) (aY:aF):Unit⊕Unit→Ex×Fast×WH:=fun
 | .inl e=>(.ret,[(4,(.bool false))],[])
 | .inr e=>((.exit 0),[(2,(.ptr (some (0,0)))),(3,(.ptr (some (1,0))))],[(some (.cells (bX a) false false)),(some (.cells (bX aY) false false))])
abbrev VU (a:aF) (aY:aF):=dx [2,3,5] (wQ a aY) (A9 a aY)
def sN (a:aF) (aY:aF) (s6:Int):Option ((Int)⊕(Unit⊕Unit)) :=
 cond (decide (s6 < (a.Path.length:Int))) ((bO a.Path s6).bind λ(x7:Int)=>(bO aY.Path s6).bind λ(x8:Int)=>cond (x7 != x8) (some (.inr (.inl ()))) (some (.inl (IntKind.i64.wrap (s6+1))))) (some (.inr (.inr ())))
def Jj (a:aF) (aY:aF) (s6:Int):Option (Unit⊕Unit):=bT (sN a aY) KK s6
theorem X4 (d:Nat) {a:aF} {aY:aF} {s6:Int} {r:(Int)⊕(Unit⊕Unit)} (h:sN a aY s6=some r):bJ (aU (aB aH (d+0)) KK 121 aij) 0 (jg [2,3,5] (wQ a aY s6)) (VU a aY r):=by
 unfold sN at h
 exact bA nB alf h (.br 102 (λ_=>.bd λx7 q7=>Ix Jp 108 q7 <| .bd λx8 q8=>Ix Jp 113 q8 <| .br 115 (λ_=>E0 [4]) λ_=>E0 [2,3,5]) λ_=>E0 [2,3])
theorem Mh (d:Nat) {a:aF} {aY:aF} {s6:Int} {r:Unit⊕Unit} (h:Jj a aY s6=some r):bJ (eu (aU (aB aH (d+0)) KK 121 aij) [2,3,5] KK) 0 (jg [2,3,5] (wQ a aY s6)) (A9 a aY r) :=
 bY (st:=wQ a aY) (fin:=A9 a aY) (step:=sN a aY) (λe=>by rcases e with e | e<;>(intro h;cases h)) (λs x h=>X4 d h) KK s6 r h
def Gd (a:aF) (aY:aF):Option (Bool) :=
 (CF a aY).bind λ(x2:Unit⊕Unit)=>cond (jI x2) (some false) ((Jj a aY 0).bind λ(x9:Unit⊕Unit)=>cond (jI x9) (some false) ((pF a.xg aY.xg).bind λ(dV:Bool)=>some dV))
def OH (a:aF) (aY:aF) (r:Bool):AV×WH:=((.bool r),[])
theorem aeI (d:Nat) {a:aF} {aY:aF} {r:Bool} (h:Gd a aY=some r):Spec (aB aH (d+2)) 14 [(.agg (bX a)),(.agg (bX aY))] [] (OH a aY r).1 (OH a aY r).2:=by
 unfold Gd at h
 exact aX nB ax0 h (.sk <| .bd λx2 q2=>.ite (λhb3=>Jn [2,3] [none,none] [] [] (jA (il hb3) (Mg (d+0) q2)) <| Fn Fo [] none) λhb3=>Jn [2,3] [none,none] [] [] (jA (zy hb3) (Mg (d+0) q2)) <| .bd λx9 q9=>.ite (λajl=>Lp [none,none,none] [] [] (jA (il ajl) (Mh (d+1) q9)) <| Fn Fo [] none) λajl=>Lp [none,none,none] [] [] (jA (zy ajl) (Mh (d+1) q9)) <| .bd λdV IV=>Cb [.agg [.undef,.undef,.slice none 2 0 0 true,.slice none 4 0 0 true],.agg [.undef,.undef,.slice none 2 0 0 true,.slice none 4 0 0 true]] (Oi (d+0) IV) <| Fn Fo [] none)
def Dp (c:UInt8):Option (Bool) :=
 some (((Em (EA .u8 (c.toNat:Int) 128)).toNat:Int)==0)
def Mi (c:UInt8) (r:Bool):AV×WH:=((.bool r),[])
theorem abN (d:Nat) {c:UInt8} {r:Bool} (h:Dp c=some r):Spec (aB aH (d+1)) 144 [(.int .u8 (c.toNat:Int))] [] (Mi c r).1 (Mi c r).2:=by
 unfold Dp at h
 exact aX nB axk h (.v 4 (.int .u8 ((Em (EA .u8 (c.toNat:Int) 128)).toNat:Int)) <| .ob (au3 rfl:@Eq (Option AV) (some (.int .u8 (EA .u8 (c.toNat:Int) 128))) (some (.int .u8 ((Em (EA .u8 (c.toNat:Int) 128)).toNat:Int)))) <| Fn Fo [] none)
def gZ (a0:List UInt8) (s3:Int):List AV×WH:=([(oU a0),(.func 144 []),(.int .i64 (a0.length:Int)),(.int .i64 s3)],[])
def jF (a0:List UInt8):Int⊕Unit→Ex×Fast×WH:=fun
 | .inl e=>(.ret,[(4,(.int .i64 e))],[])
 | .inr e=>((.exit 0),[],[])
abbrev A_ (a0:List UInt8):=dx [0,1,7,8] (gZ a0) (jF a0)
def gD (a0:List UInt8) (s3:Int):Option ((Int)⊕(Int⊕Unit)) :=
 cond (decide (s3 < (a0.length:Int))) ((bO a0 s3).bind λ(x4:UInt8)=>(Dp x4).bind λ(x5:Bool)=>cond x5 (some (.inr (.inl s3))) (some (.inl (IntKind.i64.wrap (s3+1))))) (some (.inr (.inr ())))
def lD (a0:List UInt8) (s3:Int):Option (Int⊕Unit):=bT (gD a0) KK s3
theorem Bp (d:Nat) {a0:List UInt8} {s3:Int} {r:(Int)⊕(Int⊕Unit)} (h:gD a0 s3=some r):bJ (aU (aB aH (d+1)) KK 19 ael) 0 (jg [0,1,7,8] (gZ a0 s3)) (A_ a0 r):=by
 unfold gD at h
 exact bA nB ai8 h (.br 9 (λ_=>.bd λx4 q4=>Ix UK 14 q4 <| .bd λx5 q5=>iA (abN (d+0) q5) <| .br 16 (λ_=>E0 [4]) λ_=>E0 [0,1,7,8]) λ_=>E0 [])
theorem qw (d:Nat) {a0:List UInt8} {s3:Int} {r:Int⊕Unit} (h:lD a0 s3=some r):bJ (eu (aU (aB aH (d+1)) KK 19 ael) [0,1,7,8] KK) 0 (jg [0,1,7,8] (gZ a0 s3)) (jF a0 r) :=
 bY (st:=gZ a0) (fin:=jF a0) (step:=gD a0) (λe=>by rcases e with e | e<;>(intro h;cases h)) (λs x h=>Bp d h) KK s3 r h
def iD (a0:List UInt8):Option (Int) :=
 (lD a0 0).bind λ(x6:Int⊕Unit)=>cond (jI x6) (some (CV x6)) (some (-1))
def qQ (a0:List UInt8) (r:Int):AV×WH:=((.int .i64 r),[])
theorem Ed (d:Nat) {a0:List UInt8} {r:Int} (h:iD a0=some r):Spec (aB aH (d+2)) 143 [(oU a0),(.func 144 [])] [] (qQ a0 r).1 (qQ a0 r).2:=by
 unfold iD at h
 exact aX nB axj h (.bd λx6 q6=>.ite (λDW=>Lp [none,none,none,none] [] [] (jA (il DW) (qw (d+0) q6)) <| Fn Fo [] none) λDW=>Lp [none,none,none,none] [] [] (jA (zy DW) (qw (d+0) q6)) <| Fn Fo [] none)
abbrev X5 (x1:Int) (aY:List UInt8):Fast×WH:=([(0,(oU aY)),(2,(.int .i64 0)),(5,(.int .i64 x1))],[])
def VW (x1:Int) (aY:List UInt8):Unit⊕Unit→Ex×Fast×WH:=fun
 | .inl e=>(.ret,[(2,(.int .i64 0)),(3,(.int .i64 0)),(4,(.int .i64 2))],[])
 | .inr e=>(.normal,[(0,(oU aY)),(2,(.int .i64 0)),(5,(.int .i64 x1))],[])
def Ba (x1:Int) (aY:List UInt8):Option (Unit⊕Unit) :=
 cond (decide (x1≥9)) (some (.inl ())) (cond (decide (x1 > 0)) ((bO aY x1).bind λ(x2:UInt8)=>cond ((x2.toNat:Int)==0) (some (.inl ())) (some (.inr ()))) (some (.inr ())))
theorem OI (d:Nat) {x1:Int} {aY:List UInt8} {r:Unit⊕Unit} (h:Ba x1 aY=some r):bJ (aU (aB aH (d+0)) KK 47 ZF) 0 (X5 x1 aY) (VW x1 aY r):=by
 unfold Ba at h
 exact bA nB abk h (.br 13 (λ_=>E0 [2,3,4]) λ_=>.br 16 (λ_=>.bd λx2 q2=>Ix UK 19 q2 <| .br 23 (λ_=>E0 [2,3,4]) λ_=>E0 [0,2,5]) λ_=>E0 [0,2,5])
def yL (aY:List UInt8) (x1:Int) (s6:Int×Int):List AV×WH:=([(oU aY),(.int .i64 s6.1),(.int .i64 x1),(.int .i64 s6.2)],[])
def Cc (aY:List UInt8) (x1:Int):Int→Ex×Fast×WH:=λe=>((.exit 0),[(2,(.int .i64 e)),(5,(.int .i64 x1))],[])
abbrev X6 (aY:List UInt8) (x1:Int):=dx [0,2,5,6] (yL aY x1) (Cc aY x1)
def vo (aY:List UInt8) (x1:Int) (s6:Int×Int):Option ((Int×Int)⊕(Int)) :=
 cond (decide (s6.2≥0)) ((bO aY s6.2).bind λ(x7:UInt8)=>some (.inl ((orI .i64 (aro .i64 s6.1 7) (IntKind.i64.wrap ((Em (EA .u8 (x7.toNat:Int) 127)).toNat:Int))),(IntKind.i64.wrap (s6.2 - 1))))) (some (.inr s6.1))
def EN (aY:List UInt8) (x1:Int) (s6:Int×Int):Option (Int):=bT (vo aY x1) KK s6
theorem aap (d:Nat) {aY:List UInt8} {x1:Int} {s6:Int×Int} {r:(Int×Int)⊕(Int)} (h:vo aY x1 s6=some r):bJ (aU (aB aH (d+0)) KK 47 aek) 0 (jg [0,2,5,6] (yL aY x1 s6)) (X6 aY x1 r):=by
 unfold vo at h
 exact bA nB ai7 h (.br 26 (λ_=>.bd λx7 q7=>Ix UK 33 q7 <| .v 35 (.int .u8 ((Em (EA .u8 (x7.toNat:Int) 127)).toNat:Int)) <| .ob (au3 rfl:@Eq (Option AV) (some (.int .u8 (EA .u8 (x7.toNat:Int) 127))) (some (.int .u8 ((Em (EA .u8 (x7.toNat:Int) 127)).toNat:Int)))) <| E0 [0,2,5,6]) λ_=>E0 [2,5])
theorem aaq (d:Nat) {aY:List UInt8} {x1:Int} {s6:Int×Int} {r:Int} (h:EN aY x1 s6=some r):bJ (eu (aU (aB aH (d+0)) KK 47 aek) [0,2,5,6] KK) 0 (jg [0,2,5,6] (yL aY x1 s6)) (Cc aY x1 r) :=
 bY (st:=yL aY x1) (fin:=Cc aY x1) (step:=vo aY x1) (λe=>by (intro h;cases h)) (λs x h=>aap d h) KK s6 r h
abbrev X7 (x8:Int) (x1:Int):Fast×WH:=([(2,(.int .i64 x8)),(5,(.int .i64 x1))],[])
def VX (x8:Int) (x1:Int):Unit⊕Unit→Ex×Fast×WH:=fun
 | .inl e=>(.ret,[(2,(.int .i64 0)),(3,(.int .i64 0)),(4,(.int .i64 2))],[])
 | .inr e=>(.normal,[(2,(.int .i64 x8)),(5,(.int .i64 x1))],[])
def EO (x8:Int) (x1:Int):Option (Unit⊕Unit) :=
 cond (decide (x8 < 0)) (some (.inl ())) (cond (decide (x8 > 4611686018427387903)) (some (.inl ())) (some (.inr ())))
theorem OJ (d:Nat) {x8:Int} {x1:Int} {r:Unit⊕Unit} (h:EO x8 x1=some r):bJ (aU (aB aH (d+0)) KK 47 TB) 0 (X7 x8 x1) (VX x8 x1 r):=by
 unfold EO at h
 exact bA nB Xx h (.br 40 (λ_=>E0 [2,3,4]) λ_=>.br 43 (λ_=>E0 [2,3,4]) λ_=>E0 [2,5])
def Ce (aY:List UInt8):Option (Int×Int×Int) :=
 (iD aY).bind λ(x1:Int)=>cond (decide (x1 < 0)) (some (0,0,3)) ((Ba x1 aY).bind λ(x3:Unit⊕Unit)=>cond (jI x3) (some (0,0,2)) ((EN aY x1 (0,x1)).bind λ(x8:Int)=>(EO x8 x1).bind λ(x9:Unit⊕Unit)=>cond (jI x9) (some (0,0,2)) (some (x8,(IntKind.i64.wrap (x1+1)),0))))
def QY (aY:List UInt8) (r:Int×Int×Int):AV×WH:=((.tuple [(.int .i64 r.1),(.int .i64 r.2.1),(.int .i64 r.2.2)]),[])
theorem OL (d:Nat) {aY:List UInt8} {r:Int×Int×Int} (h:Ce aY=some r):Spec (aB aH (d+3)) 139 [(oU aY)] [] (QY aY r).1 (QY aY r).2:=by
 unfold Ce at h
 exact aX nB axf h (.bd λx1 q1=>iA (Ed (d+0) q1) <| .br 10 (λ_=>Fn Fo [] none) λ_=>.bd λx3 q3=>.ite (λhb4=>Jn [0,2,5] [none,none,none] [] [] (jA (il hb4) (OI (d+2) q3)) <| Fn Fo [] none) λhb4=>Jn [0,2,5] [none,none,none] [] [] (jA (zy hb4) (OI (d+2) q3)) <| .bd λx8 q8=>Lp [none,none,none,none] [] [] (aaq (d+2) q8) <| .bd λx9 q9=>.ite (λajl=>Jn [2,5] [none,none] [] [] (jA (il ajl) (OJ (d+2) q9)) <| Fn Fo [] none) λajl=>Jn [2,5] [none,none] [] [] (jA (zy ajl) (OJ (d+2) q9)) <| Fn Fo [] none)
def Dq (aY:List UInt8):Option (List UInt8) :=
 gd (dh 1 aY.length) (some aY)
def Uo (aY:List UInt8) (r:List UInt8):AV×WH:=((oU r),[])
theorem RY (d:Nat) {aY:List UInt8} {r:List UInt8} (h:Dq aY=some r):Spec (aB aH (d+2)) 140 [(oU aY)] [] (Uo aY r).1 (Uo aY r).2:=by
 unfold Dq at h
 exact aX (Hz _) axg h (.gd λq1=>.ob q1 <| Fn Fo [] none)
def wR (count:Int) (aY:List UInt8) (s7:Int×Int×List Int):List AV×WH:=([(oU aY),(.acc 0 0 1 s7.2.2.length true),(.int .i64 s7.1),(.int .i64 (if count > 0 then count else 0)),(.int .i64 s7.2.1)],[(some (.cells (DU s7.2.2) false true))])
def Bb (count:Int) (aY:List UInt8):Int⊕(Int×List Int)→Ex×Fast×WH:=fun
 | .inl e=>(.ret,[(4,(.slice none 1 0 0 true)),(5,(.slice none 1 0 0 true)),(6,(.int .i64 e))],[])
 | .inr e=>((.exit 0),[(0,(oU aY)),(4,(.acc 0 0 1 e.2.length true)),(7,(.int .i64 e.1))],[(some (.cells (DU e.2) false true))])
abbrev VY (count:Int) (aY:List UInt8):=dx [0,4,7,12,13] (wR count aY) (Bb count aY)
def ji (count:Int) (aY:List UInt8) (s7:Int×Int×List Int):Option ((Int×Int×List Int)⊕(Int⊕(Int×List Int))) :=
 cond (decide (s7.2.1 < (if count > 0 then count else 0))) ((LQ aY s7.1 aY.length).bind λ(x8:List UInt8)=>(Ce x8).bind λ(x9:Int×Int×Int)=>cond (x9.2.2 != 0) (some (.inr (.inl x9.2.2))) (gd (dh 8 (s7.2.2++[x9.1]).length) (some (.inl ((IntKind.i64.wrap (s7.1+x9.2.1)),(IntKind.i64.wrap (s7.2.1+1)),(s7.2.2++[x9.1])))))) (some (.inr (.inr (s7.1,s7.2.2))))
def Jk (count:Int) (aY:List UInt8) (s7:Int×Int×List Int):Option (Int⊕(Int×List Int)):=bT (ji count aY) KK s7
theorem X8 (d:Nat) {count:Int} {aY:List UInt8} {s7:Int×Int×List Int} {r:(Int×Int×List Int)⊕(Int⊕(Int×List Int))} (h:ji count aY s7=some r):bJ (aU (aB aH (d+3)) KK 40 aee) 0 (jg [0,4,7,12,13] (wR count aY s7)) (VY count aY r):=by
 unfold ji at h
 exact bA nB ai1 h (.br 14 (λ_=>.bd λx8 q8=>Sl UK 18 q8 <| .bd λx9 q9=>iA (OL (d+0) q9) <| .br 24 (λ_=>E0 [4,5,6]) λ_=>.gd λKV=>Ap Jp 29 KV <| E0 [0,4,7,12,13]) λ_=>E0 [0,4,7])
theorem Mj (d:Nat) {count:Int} {aY:List UInt8} {s7:Int×Int×List Int} {r:Int⊕(Int×List Int)} (h:Jk count aY s7=some r):bJ (eu (aU (aB aH (d+3)) KK 40 aee) [0,4,7,12,13] KK) 0 (jg [0,4,7,12,13] (wR count aY s7)) (Bb count aY r) :=
 bY (st:=wR count aY) (fin:=Bb count aY) (step:=ji count aY) (λe=>by rcases e with e | e<;>(intro h;cases h)) (λs x h=>X8 d h) KK s7 r h
def zi (aY:List UInt8) (count:Int):Option (List Int×List UInt8×Int) :=
 (Jk count aY (0,0,[])).bind λ(dV:Int⊕(Int×List Int))=>cond (jI dV) (some ([],[],(CV dV))) ((LQ aY (JE dV).1 aY.length).bind λ(qJ:List UInt8)=>(Dq qJ).bind λ(lH:List UInt8)=>some ((JE dV).2,lH,0))
def OM (aY:List UInt8) (count:Int) (r:List Int×List UInt8×Int):AV×WH:=((.tuple [(KT r.1),(oU r.2.1),(.int .i64 r.2.2)]),[])
theorem La (d:Nat) {aY:List UInt8} {count:Int} {r:List Int×List UInt8×Int} (h:zi aY count=some r):Spec (aB aH (d+4)) 122 [(oU aY),(.int .i64 count)] [] (OM aY count r).1 (OM aY count r).2:=by
 unfold zi at h
 exact aX (Hz _) aw2 h (.bd λdV IV=>.ite (λRx=>Lp [none,Tw,none,none,none] [] [] (jA (il Rx) (Mj (d+0) IV)) <| Fn Fo [] none) λRx=>Lp [none,Tw,none,none,none] [] [] (jA (zy Rx) (Mj (d+0) IV)) <| .bd λqJ XA=>Sl UK 38 XA <| .bd λlH LW=>Cl [] Fo [] (RY (d+1) LW) <| Fn Fo [] none)
def dP (count:Int) (p_r:aI):Option (List Int×aI) :=
 gd (afJ 8 count) (cond (p_r.e==0) ((zi p_r.b count).bind λ(x2:List Int×List UInt8×Int)=>cond (x2.2.2==0) (some (x2.1,(⟨x2.2.1,x2.2.2⟩:aI))) (some ((List.replicate count.toNat (0:Int)),(⟨x2.2.1,x2.2.2⟩:aI)))) (some ((List.replicate count.toNat (0:Int)),p_r)))
def eP (count:Int) (p_r:aI) (r:List Int×aI):AV×WH:=((KT r.1),[(some (.cells (fA r.2) false false))])
theorem pU (d:Nat) {count:Int} {p_r:aI} {r:List Int×aI} (h:dP count p_r=some r):Spec (aB aH (d+5)) 98 [(.ptr (some (0,0))),(.int .i64 count)] [(some (.cells (fA p_r) false false))] (eP count p_r r).1 (eP count p_r r).2:=by
 unfold dP at h
 exact aX nB ay1 h (.gd λq1=>.ap 8 count.toNat (DU (List.replicate count.toNat (0:Int))) <| .ob (am8 (n:=count) q1:wMk (.int .i64 count) (.int .i64 count) count.toNat 8) <| .ob (afI (x:=(0:Int)) Jp rfl _:jX count.toNat [(.int .i64 0)]=DU (List.replicate count.toNat (0:Int))) <| .br 13 (λ_=>.bd λx2 q2=>Cl [] Fo [] (La (d+0) q2) <| .st none <| .st none <| .br 34 (λ_=>Fn Fo [] none) λ_=>.xP (.fin (some false) [] none) _ (λr=>@Eq AV (.list 1 count.toNat (DU (List.replicate count.toNat (0:Int))) false) (eP count p_r r).1∧@Eq WH [(some (.cells (fA (⟨x2.2.1,x2.2.2⟩:aI)) false false))] (eP count p_r r).2) (by show _∧_;refine ⟨?_, ?_⟩<;>first | rfl | (simp only [eP,List.length_set,List.length_append,List.length_replicate,List.length_cons,List.length_nil,List.length_take,List.length_drop,Nat.add_zero,Nat.zero_add];done) | simp [eP,KT])) λ_=>.xP (.fin (some false) [] none) _ (λr=>@Eq AV (.list 1 count.toNat (DU (List.replicate count.toNat (0:Int))) false) (eP count p_r r).1∧@Eq WH [(some (.cells (fA p_r) false false))] (eP count p_r r).2) (by show _∧_;refine ⟨?_, ?_⟩<;>first | rfl | (simp only [eP,List.length_set,List.length_append,List.length_replicate,List.length_cons,List.length_nil,List.length_take,List.length_drop,Nat.add_zero,Nat.zero_add];done) | simp [eP,KT]))
def eG (most:Int) (p_r:aI):Option (Int×aI) :=
 (dP 1 p_r).bind λ(x1:List Int×aI)=>(bO x1.1 0).bind λ(x2:Int)=>cond (decide (x2 > most)) (some (0,(⟨x1.2.b,2⟩:aI))) (some (x2,x1.2))
def Et (most:Int) (p_r:aI) (r:Int×aI):AV×WH:=((.int .i64 r.1),[(some (.cells (fA r.2) false false))])
theorem ug (d:Nat) {most:Int} {p_r:aI} {r:Int×aI} (h:eG most p_r=some r):Spec (aB aH (d+6)) 99 [(.ptr (some (0,0))),(.int .i64 most)] [(some (.cells (fA p_r) false false))] (Et most p_r r).1 (Et most p_r r).2:=by
 unfold eG at h
 exact aX nB ay2 h (.bd λx1 q1=>Cl [] Fo [] (pU (d+0) q1) <| .bd λx2 q2=>Ix Jp 8 q2 <| .br 12 (λ_=>.st none <| Fn Fo [] none) λ_=>Fn Fo [] none)
def sS (aY:List UInt8):Option (List UInt8×List UInt8×Int) :=
 (Ce aY).bind λ(x1:Int×Int×Int)=>cond (x1.2.2 != 0) (some (([]:List UInt8),[],x1.2.2)) (cond (decide (x1.1 > (IntKind.i64.wrap ((aY.length:Int) - x1.2.1)))) (some (([]:List UInt8),[],3)) ((LQ aY (IntKind.i64.wrap (x1.2.1+x1.1)) aY.length).bind λ(x2:List UInt8)=>(Dq x2).bind λ(x3:List UInt8)=>(LQ aY x1.2.1 (IntKind.i64.wrap (x1.2.1+x1.1))).bind λ(x4:List UInt8)=>some (x4,x3,0)))
def Il (aY:List UInt8) (r:List UInt8×List UInt8×Int):AV×WH:=((.tuple [(.str r.1),(oU r.2.1),(.int .i64 r.2.2)]),[])
theorem Ml (d:Nat) {aY:List UInt8} {r:List UInt8×List UInt8×Int} (h:sS aY=some r):Spec (aB aH (d+4)) 125 [(oU aY)] [] (Il aY r).1 (Il aY r).2:=by
 unfold sS at h
 exact aX nB aw5 h (.bd λx1 q1=>iA (OL (d+0) q1) <| .br 13 (λ_=>Fn Fo [] none) λ_=>.br 17 (λ_=>Fn Fo [] none) λ_=>.bd λx2 q2=>Sl UK 35 q2 <| .bd λx3 q3=>Cl [] Fo [] (RY (d+1) q3) <| .bd λx4 q4=>Sb UK 29 q4 <| .v 30 (.str x4) <| .ob (by rw [show ML x4=(x4).map JD from rfl,Ns];rfl:(kN (ML x4)).map AV.str=some (.str x4)) <| Fn Fo [] none)
def uh (count:Int) (s5:List UInt8×Int×List (List UInt8)):List AV×WH:=([(oU s5.1),(.acc 0 0 1 s5.2.2.length true),(.int .i64 count),(.int .i64 s5.2.1)],[(some (.cells (F_S s5.2.2) false true))])
def zl (count:Int):Int⊕(List UInt8×List (List UInt8))→Ex×Fast×WH:=fun
 | .inl e=>(.ret,[(4,(.slice none 1 0 0 true)),(5,(.slice none 1 0 0 true)),(6,(.int .i64 e))],[])
 | .inr e=>((.exit 0),[(0,(oU e.1)),(4,(.acc 0 0 1 e.2.length true))],[(some (.cells (F_S e.2) false true))])
abbrev Uq (count:Int):=dx [0,4,8,9] (uh count) (zl count)
def kJ (count:Int) (s5:List UInt8×Int×List (List UInt8)):Option ((List UInt8×Int×List (List UInt8))⊕(Int⊕(List UInt8×List (List UInt8)))) :=
 cond (decide (s5.2.1 < count)) ((sS s5.1).bind λ(x6:List UInt8×List UInt8×Int)=>cond (x6.2.2 != 0) (some (.inr (.inl x6.2.2))) (gd (dh 16 (s5.2.2++[x6.1]).length) (some (.inl (x6.2.1,(IntKind.i64.wrap (s5.2.1+1)),(s5.2.2++[x6.1])))))) (some (.inr (.inr (s5.1,s5.2.2))))
def Gf (count:Int) (s5:List UInt8×Int×List (List UInt8)):Option (Int⊕(List UInt8×List (List UInt8))):=bT (kJ count) KK s5
theorem VZ (d:Nat) {count:Int} {s5:List UInt8×Int×List (List UInt8)} {r:(List UInt8×Int×List (List UInt8))⊕(Int⊕(List UInt8×List (List UInt8)))} (h:kJ count s5=some r):bJ (aU (aB aH (d+4)) KK 27 aef) 0 (jg [0,4,8,9] (uh count s5)) (Uq count r):=by
 unfold kJ at h
 exact bA nB ai2 h (.br 10 (λ_=>.bd λx6 q6=>Cl [] Fo [] (Ml (d+0) q6) <| .br 18 (λ_=>E0 [4,5,6]) λ_=>.gd λq7=>Ap R_S 23 q7 <| E0 [0,4,8,9]) λ_=>E0 [0,4])
theorem Km (d:Nat) {count:Int} {s5:List UInt8×Int×List (List UInt8)} {r:Int⊕(List UInt8×List (List UInt8))} (h:Gf count s5=some r):bJ (eu (aU (aB aH (d+4)) KK 27 aef) [0,4,8,9] KK) 0 (jg [0,4,8,9] (uh count s5)) (zl count r) :=
 bY (st:=uh count) (fin:=zl count) (step:=kJ count) (λe=>by rcases e with e | e<;>(intro h;cases h)) (λs x h=>VZ d h) KK s5 r h
def zM (aY:List UInt8) (count:Int):Option (List (List UInt8)×List UInt8×Int) :=
 (Gf count (aY,0,[])).bind λ(x8:Int⊕(List UInt8×List (List UInt8)))=>cond (jI x8) (some ([],[],(CV x8))) (some ((JE x8).2,(JE x8).1,0))
def Mq (aY:List UInt8) (count:Int) (r:List (List UInt8)×List UInt8×Int):AV×WH:=((.tuple [(l_S r.1),(oU r.2.1),(.int .i64 r.2.2)]),[])
theorem QZ (d:Nat) {aY:List UInt8} {count:Int} {r:List (List UInt8)×List UInt8×Int} (h:zM aY count=some r):Spec (aB aH (d+5)) 123 [(oU aY),(.int .i64 count)] [] (Mq aY count r).1 (Mq aY count r).2:=by
 unfold zM at h
 exact aX nB aw3 h (.bd λx8 q8=>.ite (λhb9=>Lp [none,Tw,none,none] [] [] (jA (il hb9) (Km (d+0) q8)) <| Fn Fo [] none) λhb9=>Lp [none,Tw,none,none] [] [] (jA (zy hb9) (Km (d+0) q8)) <| Fn Fo [] none)
def qh (aY:List UInt8):Option (bn×List UInt8×Int) :=
 (zi aY 3).bind λ(x1:List Int×List UInt8×Int)=>cond (x1.2.2 != 0) (some ((⟨0,0,(⟨0,([]:List UInt8),([]:List UInt8),([]:List UInt8)⟩:bD)⟩:bn),[],x1.2.2)) ((zM x1.2.1 3).bind λ(x2:List (List UInt8)×List UInt8×Int)=>cond (x2.2.2 != 0) (some ((⟨0,0,(⟨0,([]:List UInt8),([]:List UInt8),([]:List UInt8)⟩:bD)⟩:bn),[],x2.2.2)) ((bO x1.1 0).bind λ(x3:Int)=>(bO x1.1 1).bind λ(x4:Int)=>(bO x1.1 2).bind λ(x5:Int)=>(bO x2.1 0).bind λ(x6:List UInt8)=>(bO x2.1 1).bind λ(x7:List UInt8)=>(bO x2.1 2).bind λ(x8:List UInt8)=>(nC (⟨x3,x4,(⟨x5,x6,x7,x8⟩:bD)⟩:bn)).bind λ(x9:Bool)=>cond (!x9) (some ((⟨0,0,(⟨0,([]:List UInt8),([]:List UInt8),([]:List UInt8)⟩:bD)⟩:bn),[],2)) (some ((⟨x3,x4,(⟨x5,x6,x7,x8⟩:bD)⟩:bn),x2.2.1,0))))
def Im (aY:List UInt8) (r:bn×List UInt8×Int):AV×WH:=((.tuple [(.agg (sO r.1)),(oU r.2.1),(.int .i64 r.2.2)]),[])
theorem X9 (d:Nat) {aY:List UInt8} {r:bn×List UInt8×Int} (h:qh aY=some r):Spec (aB aH (d+6)) 100 [(oU aY)] [] (Im aY r).1 (Im aY r).2:=by
 unfold qh at h
 exact aX nB awL h (.bd λx1 q1=>Cl [] Fo [] (La (d+1) q1) <| .br 14 (λ_=>.st none <| Fn Fo [] none) λ_=>.bd λx2 q2=>Cl [] Fo [] (QZ (d+0) q2) <| .br 24 (λ_=>.st none <| Fn Fo [] none) λ_=>.bd λx3 q3=>Ix Jp 28 q3 <| .bd λx4 q4=>Ix Jp 31 q4 <| .bd λx5 q5=>Ix Jp 34 q5 <| .bd λx6 q6=>Ix R_S 37 q6 <| .bd λx7 q7=>Ix R_S 40 q7 <| .bd λx8 q8=>Ix R_S 43 q8 <| .st none <| .bd λx9 q9=>iA (BZ (d+3) q9) <| .br 49 (λ_=>.st none <| Fn Fo [] none) λ_=>.st none <| Fn Fo [] none)
def Fb (aY:List UInt8):Option (Int×List UInt8×Int) :=
 (Ce aY).bind λ(x1:Int×Int×Int)=>cond (x1.2.2 != 0) (some (0,[],x1.2.2)) ((LQ aY x1.2.1 aY.length).bind λ(x2:List UInt8)=>(Dq x2).bind λ(x3:List UInt8)=>some (x1.1,x3,0))
def Q0 (aY:List UInt8) (r:Int×List UInt8×Int):AV×WH:=((.tuple [(.int .i64 r.1),(oU r.2.1),(.int .i64 r.2.2)]),[])
theorem ag3 (d:Nat) {aY:List UInt8} {r:Int×List UInt8×Int} (h:Fb aY=some r):Spec (aB aH (d+4)) 124 [(oU aY)] [] (Q0 aY r).1 (Q0 aY r).2:=by
 unfold Fb at h
 exact aX nB aw4 h (.bd λx1 q1=>iA (OL (d+0) q1) <| .br 13 (λ_=>Fn Fo [] none) λ_=>.bd λx2 q2=>Sl UK 18 q2 <| .bd λx3 q3=>Cl [] Fo [] (RY (d+1) q3) <| Fn Fo [] none)
def jy (aY:List UInt8):Option (aD×List UInt8×Int) :=
 (Fb aY).bind λ(x1:Int×List UInt8×Int)=>cond (x1.2.2 != 0) (some ((⟨0,([]:List UInt8)⟩:aD),[],x1.2.2)) ((sS x1.2.1).bind λ(x2:List UInt8×List UInt8×Int)=>cond (x2.2.2 != 0) (some ((⟨0,([]:List UInt8)⟩:aD),[],x2.2.2)) ((jL (⟨x1.1,x2.1⟩:aD)).bind λ(x3:Bool)=>cond (!x3) (some ((⟨0,([]:List UInt8)⟩:aD),[],2)) (some ((⟨x1.1,x2.1⟩:aD),x2.2.1,0))))
def Dr (aY:List UInt8) (r:aD×List UInt8×Int):AV×WH:=((.tuple [(.agg (dQ r.1)),(oU r.2.1),(.int .i64 r.2.2)]),[])
theorem Gg (d:Nat) {aY:List UInt8} {r:aD×List UInt8×Int} (h:jy aY=some r):Spec (aB aH (d+5)) 101 [(oU aY)] [] (Dr aY r).1 (Dr aY r).2:=by
 unfold jy at h
 exact aX nB awM h (.bd λx1 q1=>Cl [] Fo [] (ag3 (d+0) q1) <| .br 14 (λ_=>.st none <| Fn Fo [] none) λ_=>.bd λx2 q2=>Cl [] Fo [] (Ml (d+0) q2) <| .br 24 (λ_=>.st none <| Fn Fo [] none) λ_=>.st none <| .bd λx3 q3=>iA (xE (d+3) q3) <| .br 32 (λ_=>.st none <| Fn Fo [] none) λ_=>.st none <| Fn Fo [] none)
def iL (p_r:aI):Option (av×aI) :=
 (dP 4 p_r).bind λ(x1:List Int×aI)=>(eG 1 x1.2).bind λ(x2:Int×aI)=>(bO x1.1 0).bind λ(x3:Int)=>(bO x1.1 1).bind λ(x4:Int)=>(bO x1.1 2).bind λ(x5:Int)=>(bO x1.1 3).bind λ(x6:Int)=>some ((⟨x3,x4,x5,x6,(x2.1==1)⟩:av),x2.2)
def Dt (p_r:aI) (r:av×aI):AV×WH:=((.agg (zA r.1)),[(some (.cells (fA r.2) false false))])
theorem RZ (d:Nat) {p_r:aI} {r:av×aI} (h:iL p_r=some r):Spec (aB aH (d+7)) 103 [(.ptr (some (0,0)))] [(some (.cells (fA p_r) false false))] (Dt p_r r).1 (Dt p_r r).2:=by
 unfold iL at h
 exact aX nB awN h (.bd λx1 q1=>Cl [] Fo [] (pU (d+1) q1) <| .bd λx2 q2=>Cl [] Fo [] (ug (d+0) q2) <| .bd λx3 q3=>Ix Jp 7 q3 <| .bd λx4 q4=>Ix Jp 10 q4 <| .bd λx5 q5=>Ix Jp 13 q5 <| .bd λx6 q6=>Ix Jp 16 q6 <| .st none <| Fn Fo [] none)
def fZ (count:Int) (p_r:aG):Option (List Int×aG) :=
 gd (afJ 8 count) (cond (p_r.e==0) ((zi p_r.b count).bind λ(x2:List Int×List UInt8×Int)=>cond (x2.2.2==0) (some (x2.1,(⟨x2.2.1,x2.2.2⟩:aG))) (some ((List.replicate count.toNat (0:Int)),(⟨x2.2.1,x2.2.2⟩:aG)))) (some ((List.replicate count.toNat (0:Int)),p_r)))
def dU (count:Int) (p_r:aG) (r:List Int×aG):AV×WH:=((KT r.1),[(some (.cells (dY r.2) false false))])
theorem rY (d:Nat) {count:Int} {p_r:aG} {r:List Int×aG} (h:fZ count p_r=some r):Spec (aB aH (d+5)) 126 [(.ptr (some (0,0))),(.int .i64 count)] [(some (.cells (dY p_r) false false))] (dU count p_r r).1 (dU count p_r r).2:=by
 unfold fZ at h
 exact aX nB aw6 h (.gd λq1=>.ap 8 count.toNat (DU (List.replicate count.toNat (0:Int))) <| .ob (am8 (n:=count) q1:wMk (.int .i64 count) (.int .i64 count) count.toNat 8) <| .ob (afI (x:=(0:Int)) Jp rfl _:jX count.toNat [(.int .i64 0)]=DU (List.replicate count.toNat (0:Int))) <| .br 13 (λ_=>.bd λx2 q2=>Cl [] Fo [] (La (d+0) q2) <| .st none <| .st none <| .br 34 (λ_=>Fn Fo [] none) λ_=>.xP (.fin (some false) [] none) _ (λr=>@Eq AV (.list 1 count.toNat (DU (List.replicate count.toNat (0:Int))) false) (dU count p_r r).1∧@Eq WH [(some (.cells (dY (⟨x2.2.1,x2.2.2⟩:aG)) false false))] (dU count p_r r).2) (by show _∧_;refine ⟨?_, ?_⟩<;>first | rfl | (simp only [dU,List.length_set,List.length_append,List.length_replicate,List.length_cons,List.length_nil,List.length_take,List.length_drop,Nat.add_zero,Nat.zero_add];done) | simp [dU,KT])) λ_=>.xP (.fin (some false) [] none) _ (λr=>@Eq AV (.list 1 count.toNat (DU (List.replicate count.toNat (0:Int))) false) (dU count p_r r).1∧@Eq WH [(some (.cells (dY p_r) false false))] (dU count p_r r).2) (by show _∧_;refine ⟨?_, ?_⟩<;>first | rfl | (simp only [dU,List.length_set,List.length_append,List.length_replicate,List.length_cons,List.length_nil,List.length_take,List.length_drop,Nat.add_zero,Nat.zero_add];done) | simp [dU,KT]))
def fK (most:Int) (p_r:aG):Option (Int×aG) :=
 (fZ 1 p_r).bind λ(x1:List Int×aG)=>(bO x1.1 0).bind λ(x2:Int)=>cond (decide (x2 > most)) (some (0,(⟨x1.2.b,2⟩:aG))) (some (x2,x1.2))
def Bc (most:Int) (p_r:aG) (r:Int×aG):AV×WH:=((.int .i64 r.1),[(some (.cells (dY r.2) false false))])
theorem Du (d:Nat) {most:Int} {p_r:aG} {r:Int×aG} (h:fK most p_r=some r):Spec (aB aH (d+6)) 127 [(.ptr (some (0,0))),(.int .i64 most)] [(some (.cells (dY p_r) false false))] (Bc most p_r r).1 (Bc most p_r r).2:=by
 unfold fK at h
 exact aX nB aw7 h (.bd λx1 q1=>Cl [] Fo [] (rY (d+0) q1) <| .bd λx2 q2=>Ix Jp 8 q2 <| .br 12 (λ_=>.st none <| Fn Fo [] none) λ_=>Fn Fo [] none)
def jP (p_r:aG):Option (au×aG) :=
 cond (p_r.e==0) ((zM p_r.b 2).bind λ(x1:List (List UInt8)×List UInt8×Int)=>cond (x1.2.2==0) ((bO x1.1 0).bind λ(x2:List UInt8)=>(bO x1.1 1).bind λ(x3:List UInt8)=>some ((⟨x2,x3⟩:au),(⟨x1.2.1,x1.2.2⟩:aG))) (some ((⟨([]:List UInt8),([]:List UInt8)⟩:au),(⟨x1.2.1,x1.2.2⟩:aG)))) (some ((⟨([]:List UInt8),([]:List UInt8)⟩:au),p_r))
def BF (p_r:aG) (r:au×aG):AV×WH:=((.agg (rJ r.1)),[(some (.cells (dY r.2) false false))])
theorem Qj (d:Nat) {p_r:aG} {r:au×aG} (h:jP p_r=some r):Spec (aB aH (d+6)) 128 [(.ptr (some (0,0)))] [(some (.cells (dY p_r) false false))] (BF p_r r).1 (BF p_r r).2:=by
 unfold jP at h
 exact aX nB aw8 h (.br 8 (λ_=>.bd λx1 q1=>Cl [] Fo [] (QZ (d+0) q1) <| .st none <| .st none <| .br 28 (λ_=>.bd λx2 q2=>Ix R_S 30 q2 <| .bd λx3 q3=>Ix R_S 33 q3 <| .st none <| .st none <| Fn Fo [] none) λ_=>.st none <| Fn Fo [] none) λ_=>.st none <| Fn Fo [] none)
def iQ (p_r:aG):Option (ak×aG) :=
 (fZ 2 p_r).bind λ(x1:List Int×aG)=>(bO x1.1 0).bind λ(x2:Int)=>(bO x1.1 1).bind λ(x3:Int)=>cond (x1.2.e==0) ((jy x1.2.b).bind λ(x4:aD×List UInt8×Int)=>some ((⟨x2,x3,x4.1⟩:ak),(⟨x4.2.1,x4.2.2⟩:aG))) (some ((⟨x2,x3,(⟨0,([]:List UInt8)⟩:aD)⟩:ak),x1.2))
def BG (p_r:aG) (r:ak×aG):AV×WH:=((.agg (bM r.1)),[(some (.cells (dY r.2) false false))])
theorem Qk (d:Nat) {p_r:aG} {r:ak×aG} (h:iQ p_r=some r):Spec (aB aH (d+6)) 129 [(.ptr (some (0,0)))] [(some (.cells (dY p_r) false false))] (BG p_r r).1 (BG p_r r).2:=by
 unfold iQ at h
 exact aX nB aw9 h (.bd λx1 q1=>Cl [] Fo [] (rY (d+0) q1) <| .bd λx2 q2=>Ix Jp 7 q2 <| .st none <| .bd λx3 q3=>Ix Jp 10 q3 <| .st none <| .br 18 (λ_=>.bd λx4 q4=>Cl [] Fo [] (Gg (d+0) q4) <| .st none <| .st none <| .st none <| .st none <| Fn Fo [] none) λ_=>.st none <| Fn Fo [] none)
def nW (x4:Int×aG) (x2:Int) (x3:Int) (s9:Int×aG×List au):List AV×WH:=([(.ptr (some (0,0))),(.ptr (some (1,0))),(.int .i64 x4.1),(.int .i64 s9.1)],[(some (.cells [(.int .i64 x2),(.int .i64 x3),(.acc 2 0 2 s9.2.2.length true),(.acc 3 0 4 0 true)] false false)),(some (.cells (dY s9.2.1) false false)),(some (.cells (aC s9.2.2) false true)),(some (.cells (aO []) false true))])
def rZ (x4:Int×aG) (x2:Int) (x3:Int):(aG×List au)→Ex×Fast×WH:=λe=>((.exit 0),[(2,(.ptr (some (0,0)))),(5,(.ptr (some (1,0))))],[(some (.cells [(.int .i64 x2),(.int .i64 x3),(.acc 2 0 2 e.2.length true),(.acc 3 0 4 0 true)] false false)),(some (.cells (dY e.1) false false)),(some (.cells (aC e.2) false true)),(some (.cells (aO []) false true))])
abbrev MS (x4:Int×aG) (x2:Int) (x3:Int):=dx [2,5,21,22] (nW x4 x2 x3) (rZ x4 x2 x3)
def gM (x4:Int×aG) (x2:Int) (x3:Int) (s9:Int×aG×List au):Option ((Int×aG×List au)⊕((aG×List au))) :=
 cond (decide (s9.1 < x4.1)) ((jP s9.2.1).bind λ(x10:au×aG)=>gd (dh 32 (s9.2.2++[x10.1]).length) (some (.inl ((IntKind.i64.wrap (s9.1+1)),x10.2,(s9.2.2++[x10.1]))))) (some (.inr (s9.2.1,s9.2.2)))
def nJ (x4:Int×aG) (x2:Int) (x3:Int) (s9:Int×aG×List au):Option ((aG×List au)):=bT (gM x4 x2 x3) KK s9
theorem OO (d:Nat) {x4:Int×aG} {x2:Int} {x3:Int} {s9:Int×aG×List au} {r:(Int×aG×List au)⊕((aG×List au))} (h:gM x4 x2 x3 s9=some r):bJ (aU (aB aH (d+6)) KK 80 ad8) 0 (jg [2,5,21,22] (nW x4 x2 x3 s9)) (MS x4 x2 x3 r):=by
 unfold gM at h
 exact bA nB aiV h (.br 23 (λ_=>.bd λx10 KV=>Cl [] Fo [] (Qj (d+0) KV) <| .gd λIV=>Ap aQ 29 IV <| .st none <| E0 [2,5,21,22]) λ_=>E0 [2,5])
theorem OP (d:Nat) {x4:Int×aG} {x2:Int} {x3:Int} {s9:Int×aG×List au} {r:(aG×List au)} (h:nJ x4 x2 x3 s9=some r):bJ (eu (aU (aB aH (d+6)) KK 80 ad8) [2,5,21,22] KK) 0 (jg [2,5,21,22] (nW x4 x2 x3 s9)) (rZ x4 x2 x3 r) :=
 bY (st:=nW x4 x2 x3) (fin:=rZ x4 x2 x3) (step:=gM x4 x2 x3) (λe=>by (intro h;cases h)) (λs x h=>OO d h) KK s9 r h
def nX (qJ:Int×aG) (x2:Int) (x3:Int) (cu:(aG×List au)) (s16:Int×aG×List ak):List AV×WH:=([(.ptr (some (0,0))),(.ptr (some (1,0))),(.int .i64 qJ.1),(.int .i64 s16.1)],[(some (.cells [(.int .i64 x2),(.int .i64 x3),(.acc 2 0 2 cu.2.length true),(.acc 3 0 4 s16.2.2.length true)] false false)),(some (.cells (dY s16.2.1) false false)),(some (.cells (aC cu.2) false true)),(some (.cells (aO s16.2.2) false true))])
def r9 (qJ:Int×aG) (x2:Int) (x3:Int) (cu:(aG×List au)):(aG×List ak)→Ex×Fast×WH:=λe=>((.exit 2),[(2,(.ptr (some (0,0)))),(5,(.ptr (some (1,0))))],[(some (.cells [(.int .i64 x2),(.int .i64 x3),(.acc 2 0 2 cu.2.length true),(.acc 3 0 4 e.2.length true)] false false)),(some (.cells (dY e.1) false false)),(some (.cells (aC cu.2) false true)),(some (.cells (aO e.2) false true))])
abbrev MU (qJ:Int×aG) (x2:Int) (x3:Int) (cu:(aG×List au)):=dx [2,5,33,34] (nX qJ x2 x3 cu) (r9 qJ x2 x3 cu)
def gN (qJ:Int×aG) (x2:Int) (x3:Int) (cu:(aG×List au)) (s16:Int×aG×List ak):Option ((Int×aG×List ak)⊕((aG×List ak))) :=
 cond (decide (s16.1 < qJ.1)) ((iQ s16.2.1).bind λ(iU:ak×aG)=>gd (dh 40 (s16.2.2++[iU.1]).length) (some (.inl ((IntKind.i64.wrap (s16.1+1)),iU.2,(s16.2.2++[iU.1]))))) (some (.inr (s16.2.1,s16.2.2)))
def kK (qJ:Int×aG) (x2:Int) (x3:Int) (cu:(aG×List au)) (s16:Int×aG×List ak):Option ((aG×List ak)):=bT (gN qJ x2 x3 cu) KK s16
theorem OQ (d:Nat) {qJ:Int×aG} {x2:Int} {x3:Int} {cu:(aG×List au)} {s16:Int×aG×List ak} {r:(Int×aG×List ak)⊕((aG×List ak))} (h:gN qJ x2 x3 cu s16=some r):bJ (aU (aB aH (d+6)) KK 80 ad9) 0 (jg [2,5,33,34] (nX qJ x2 x3 cu s16)) (MU qJ x2 x3 cu r):=by
 unfold gN at h
 exact bA nB aiW h (.br 35 (λ_=>.bd λiU GH=>Cl [] Fo [] (Qk (d+0) GH) <| .gd λVk=>Ap bS 41 Vk <| .st none <| E0 [2,5,33,34]) λ_=>E0 [2,5])
theorem OT (d:Nat) {qJ:Int×aG} {x2:Int} {x3:Int} {cu:(aG×List au)} {s16:Int×aG×List ak} {r:(aG×List ak)} (h:kK qJ x2 x3 cu s16=some r):bJ (eu (aU (aB aH (d+6)) KK 80 ad9) [2,5,33,34] KK) 0 (jg [2,5,33,34] (nX qJ x2 x3 cu s16)) (r9 qJ x2 x3 cu r) :=
 bY (st:=nX qJ x2 x3 cu) (fin:=r9 qJ x2 x3 cu) (step:=gN qJ x2 x3 cu) (λe=>by (intro h;cases h)) (λs x h=>OQ d h) KK s16 r h
abbrev MV (om:(aG×List ak)) (x2:Int) (x3:Int) (cu:(aG×List au)):Fast×WH:=([(2,(.ptr (some (0,0)))),(5,(.ptr (some (1,0))))],[(some (.cells [(.int .i64 x2),(.int .i64 x3),(.acc 2 0 2 cu.2.length true),(.acc 3 0 4 om.2.length true)] false false)),(some (.cells (dY om.1) false false)),(some (.cells (aC cu.2) false true)),(some (.cells (aO om.2) false true))])
def Lb (om:(aG×List ak)) (x2:Int) (x3:Int) (cu:(aG×List au)):Bool→Ex×Fast×WH:=λe=>(.normal,[(2,(.ptr (some (0,0)))),(5,(.ptr (some (1,0)))),(53,(.bool e))],[(some (.cells [(.int .i64 x2),(.int .i64 x3),(.acc 2 0 2 cu.2.length true),(.acc 3 0 4 om.2.length true)] false false)),(some (.cells (dY om.1) false false)),(some (.cells (aC cu.2) false true)),(some (.cells (aO om.2) false true))])
def nK (om:(aG×List ak)) (x2:Int) (x3:Int) (cu:(aG×List au)):Option (Bool) :=
 cond (om.1.e==0) ((kI (⟨x2,x3,cu.2,om.2⟩:aA)).bind λ(x20:Bool)=>some (!x20)) (some false)
theorem OU (d:Nat) {om:(aG×List ak)} {x2:Int} {x3:Int} {cu:(aG×List au)} {r:Bool} (h:nK om x2 x3 cu=some r):bJ (aU (aB aH (d+10)) KK 80 NG) 0 (MV om x2 x3 cu) (Lb om x2 x3 cu r):=by
 unfold nK at h
 exact bA nB Tq h (.br 49 (λ_=>.bd λx20 q20=>Cb [.agg [.undef,.undef,.slice none 2 0 0 true,.slice none 4 0 0 true]] (zf (d+0) q20) <| E0 [2,5,53]) λ_=>E0 [2,5,53])
abbrev MW (om:(aG×List ak)) (x2:Int) (x3:Int) (cu:(aG×List au)):Fast×WH:=([(2,(.ptr (some (0,0)))),(5,(.ptr (some (1,0))))],[(some (.cells [(.int .i64 x2),(.int .i64 x3),(.acc 2 0 2 cu.2.length true),(.acc 3 0 4 om.2.length true)] false false)),(some (.cells (dY om.1) false false)),(some (.cells (aC cu.2) false true)),(some (.cells (aO om.2) false true))])
def Lc (om:(aG×List ak)) (x2:Int) (x3:Int) (cu:(aG×List au)):aG→Ex×Fast×WH:=λe=>(.normal,[(2,(.ptr (some (0,0)))),(5,(.ptr (some (1,0))))],[(some (.cells [(.int .i64 x2),(.int .i64 x3),(.acc 2 0 2 cu.2.length true),(.acc 3 0 4 om.2.length true)] false false)),(some (.cells (dY e) false false)),(some (.cells (aC cu.2) false true)),(some (.cells (aO om.2) false true))])
def iE (om:(aG×List ak)) (x2:Int) (x3:Int) (cu:(aG×List au)):Option (aG) :=
 (nK om x2 x3 cu).bind λ(x21:Bool)=>cond x21 (some (⟨om.1.b,2⟩:aG)) (some om.1)
theorem OV (d:Nat) {om:(aG×List ak)} {x2:Int} {x3:Int} {cu:(aG×List au)} {r:aG} (h:iE om x2 x3 cu=some r):bJ (aU (aB aH (d+10)) KK 80 QB) 0 (MW om x2 x3 cu) (Lc om x2 x3 cu r):=by
 unfold iE at h
 exact bA nB Vh h (.bd λx21 q21=>Jn [2,5] [none,none] [] [] (OU (d+0) q21) <| .br 53 (λ_=>.st none <| E0 [2,5]) λ_=>E0 [2,5])
def lV (aY:List UInt8):Option (aA×List UInt8×Int) :=
 (fZ 2 (⟨aY,0⟩:aG)).bind λ(x1:List Int×aG)=>(bO x1.1 0).bind λ(x2:Int)=>(bO x1.1 1).bind λ(x3:Int)=>(fK 8 x1.2).bind λ(x4:Int×aG)=>(nJ x4 x2 x3 (0,x4.2,[])).bind λ(cu:(aG×List au))=>(fK 4 cu.1).bind λ(qJ:Int×aG)=>(kK qJ x2 x3 cu (0,qJ.2,[])).bind λ(om:(aG×List ak))=>(iE om x2 x3 cu).bind λ(Fa:aG)=>cond (Fa.e != 0) (some ((⟨0,0,[],[]⟩:aA),[],Fa.e)) (some ((⟨x2,x3,cu.2,om.2⟩:aA),Fa.b,0))
def Eu (aY:List UInt8) (r:aA×List UInt8×Int):AV×WH:=((.tuple [(.agg (bI r.1)),(oU r.2.1),(.int .i64 r.2.2)]),[])
theorem Ur (d:Nat) {aY:List UInt8} {r:aA×List UInt8×Int} (h:lV aY=some r):Spec (aB aH (d+11)) 105 [(oU aY)] [] (Eu aY r).1 (Eu aY r).2:=by
 unfold lV at h
 exact aX (Hz _) awO h (.z 2 [.undef,.undef,.slice none 2 0 0 true,.slice none 4 0 0 true] <| .bd λx1 q1=>Cl [] Fo [] (rY (d+5) q1) <| .bd λx2 q2=>Ix Jp 13 q2 <| .st none <| .bd λx3 q3=>Ix Jp 16 q3 <| .st none <| .bd λx4 q4=>Cl [] Fo [] (Du (d+4) q4) <| .bd λcu KZ=>Lp [none,none,none,none] [Tw,Tw,Tw,Tw] [] (OP (d+4) KZ) <| .bd λqJ XA=>Cl [] Fo [] (Du (d+4) XA) <| .bd λom QG=>Lp [none,none,none,none] [] [] (OT (d+4) QG) <| .bd λFa q22=>Jn [2,5] [none,none] [] [] (OV (d+0) q22) <| .br 61 (λ_=>.z 62 [.agg [.undef,.undef,.slice none 2 0 0 true,.slice none 4 0 0 true]] <| .st none <| Fn Fo [.tuple [.agg [.undef,.undef,.slice none 2 0 0 true,.slice none 4 0 0 true],.undef,.undef]] none) λ_=>.st none <| .st none <| .st none <| .er <| .ob (rfl:@Eq (Option AV) (some (oU Fa.b)) (some (oU Fa.b))) <| Fn Fo [.tuple [.agg [.undef,.undef,.slice none 2 0 0 true,.slice none 4 0 0 true],.undef,.undef]] none)
abbrev Jl (x10:Int×aI) (x2:Int) (x3:Int) (x4:Int) (x5:Int) (x6:Int) (x7:Int) (x8:Int) (x9:Int):Fast×WH:=([(0,(.ptr (some (0,0)))),(2,(.ptr (some (1,0))))],[(some (.cells (fA x10.2) false false)),(some (.cells [(.int .i64 x2),(.int .i64 x3),(.int .i64 x4),(.int .i64 x5),(.int .i64 x6),(.int .i64 x7),(.int .i64 x8),(.int .i64 x9),(.bool (x10.1==1)),(.int .i64 0),(.int .i64 0),(.int .i64 0),(.str ([]:List UInt8)),(.str ([]:List UInt8)),(.str ([]:List UInt8)),(.int .i64 0),(.str ([]:List UInt8)),(.slice none 1 0 0 true),(.slice none 5 0 0 true),(.int .i64 0),(.int .i64 0),(.slice none 2 0 0 true),(.slice none 4 0 0 true)] false false))])
def GZ (x10:Int×aI) (x2:Int) (x3:Int) (x4:Int) (x5:Int) (x6:Int) (x7:Int) (x8:Int) (x9:Int):(aI×Int×Int×Int×List UInt8×List UInt8×List UInt8)→Ex×Fast×WH:=λe=>(.normal,[(0,(.ptr (some (0,0)))),(2,(.ptr (some (1,0))))],[(some (.cells (fA e.1) false false)),(some (.cells [(.int .i64 x2),(.int .i64 x3),(.int .i64 x4),(.int .i64 x5),(.int .i64 x6),(.int .i64 x7),(.int .i64 x8),(.int .i64 x9),(.bool (x10.1==1)),(.int .i64 e.2.1),(.int .i64 e.2.2.1),(.int .i64 e.2.2.2.1),(.str e.2.2.2.2.1),(.str e.2.2.2.2.2.1),(.str e.2.2.2.2.2.2),(.int .i64 0),(.str ([]:List UInt8)),(.slice none 1 0 0 true),(.slice none 5 0 0 true),(.int .i64 0),(.int .i64 0),(.slice none 2 0 0 true),(.slice none 4 0 0 true)] false false))])
def iY (x10:Int×aI) (x2:Int) (x3:Int) (x4:Int) (x5:Int) (x6:Int) (x7:Int) (x8:Int) (x9:Int):Option ((aI×Int×Int×Int×List UInt8×List UInt8×List UInt8)) :=
 cond (x10.2.e==0) ((qh x10.2.b).bind λ(dV:bn×List UInt8×Int)=>some ((⟨dV.2.1,dV.2.2⟩:aI),dV.1.Client,dV.1.Seq,dV.1.Op.Kind,dV.1.Op.Key,dV.1.Op.Value,dV.1.Op.Old)) (some (x10.2,0,0,0,([]:List UInt8),([]:List UInt8),([]:List UInt8)))
theorem Kn (d:Nat) {x10:Int×aI} {x2:Int} {x3:Int} {x4:Int} {x5:Int} {x6:Int} {x7:Int} {x8:Int} {x9:Int} {r:(aI×Int×Int×Int×List UInt8×List UInt8×List UInt8)} (h:iY x10 x2 x3 x4 x5 x6 x7 x8 x9=some r):bJ (aU (aB aH (d+6)) KK 128 Zv) 1 (Jl x10 x2 x3 x4 x5 x6 x7 x8 x9) (GZ x10 x2 x3 x4 x5 x6 x7 x8 x9 r):=by
 unfold iY at h
 exact bA nB abh h (.br 46 (λ_=>.bd λdV IV=>Cl [] Fo [] (X9 (d+0) IV) <| .st none <| .st none <| .st none <| E0 [0,2]) λ_=>E0 [0,2])
abbrev Jm (cu:(aI×Int×Int×Int×List UInt8×List UInt8×List UInt8)) (x2:Int) (x3:Int) (x4:Int) (x5:Int) (x6:Int) (x7:Int) (x8:Int) (x9:Int) (x10:Int×aI):Fast×WH:=([(0,(.ptr (some (0,0)))),(2,(.ptr (some (1,0))))],[(some (.cells (fA cu.1) false false)),(some (.cells [(.int .i64 x2),(.int .i64 x3),(.int .i64 x4),(.int .i64 x5),(.int .i64 x6),(.int .i64 x7),(.int .i64 x8),(.int .i64 x9),(.bool (x10.1==1)),(.int .i64 cu.2.1),(.int .i64 cu.2.2.1),(.int .i64 cu.2.2.2.1),(.str cu.2.2.2.2.1),(.str cu.2.2.2.2.2.1),(.str cu.2.2.2.2.2.2),(.int .i64 0),(.str ([]:List UInt8)),(.slice none 1 0 0 true),(.slice none 5 0 0 true),(.int .i64 0),(.int .i64 0),(.slice none 2 0 0 true),(.slice none 4 0 0 true)] false false))])
def G5 (cu:(aI×Int×Int×Int×List UInt8×List UInt8×List UInt8)) (x2:Int) (x3:Int) (x4:Int) (x5:Int) (x6:Int) (x7:Int) (x8:Int) (x9:Int) (x10:Int×aI):(aI×Int×List UInt8)→Ex×Fast×WH:=λe=>(.normal,[(0,(.ptr (some (0,0)))),(2,(.ptr (some (1,0))))],[(some (.cells (fA e.1) false false)),(some (.cells [(.int .i64 x2),(.int .i64 x3),(.int .i64 x4),(.int .i64 x5),(.int .i64 x6),(.int .i64 x7),(.int .i64 x8),(.int .i64 x9),(.bool (x10.1==1)),(.int .i64 cu.2.1),(.int .i64 cu.2.2.1),(.int .i64 cu.2.2.2.1),(.str cu.2.2.2.2.1),(.str cu.2.2.2.2.2.1),(.str cu.2.2.2.2.2.2),(.int .i64 e.2.1),(.str e.2.2),(.slice none 1 0 0 true),(.slice none 5 0 0 true),(.int .i64 0),(.int .i64 0),(.slice none 2 0 0 true),(.slice none 4 0 0 true)] false false))])
def iZ (cu:(aI×Int×Int×Int×List UInt8×List UInt8×List UInt8)) (x2:Int) (x3:Int) (x4:Int) (x5:Int) (x6:Int) (x7:Int) (x8:Int) (x9:Int) (x10:Int×aI):Option ((aI×Int×List UInt8)) :=
 cond (cu.1.e==0) ((jy cu.1.b).bind λ(qJ:aD×List UInt8×Int)=>some ((⟨qJ.2.1,qJ.2.2⟩:aI),qJ.1.Why,qJ.1.Value)) (some (cu.1,0,([]:List UInt8)))
theorem Ko (d:Nat) {cu:(aI×Int×Int×Int×List UInt8×List UInt8×List UInt8)} {x2:Int} {x3:Int} {x4:Int} {x5:Int} {x6:Int} {x7:Int} {x8:Int} {x9:Int} {x10:Int×aI} {r:(aI×Int×List UInt8)} (h:iZ cu x2 x3 x4 x5 x6 x7 x8 x9 x10=some r):bJ (aU (aB aH (d+5)) KK 128 WO) 1 (Jm cu x2 x3 x4 x5 x6 x7 x8 x9 x10) (G5 cu x2 x3 x4 x5 x6 x7 x8 x9 x10 r):=by
 unfold iZ at h
 exact bA nB Zw h (.br 67 (λ_=>.bd λqJ XA=>Cl [] Fo [] (Gg (d+0) XA) <| .st none <| .st none <| .st none <| E0 [0,2]) λ_=>E0 [0,2])
def kY (iU:Int×aI) (x2:Int) (x3:Int) (x4:Int) (x5:Int) (x6:Int) (x7:Int) (x8:Int) (x9:Int) (x10:Int×aI) (cu:(aI×Int×Int×Int×List UInt8×List UInt8×List UInt8)) (lH:(aI×Int×List UInt8)) (yY:List Int×aI) (Us:Int×aI×List av):List AV×WH:=([(.ptr (some (0,0))),(.ptr (some (1,0))),(.int .i64 iU.1),(.int .i64 Us.1)],[(some (.cells (fA Us.2.1) false false)),(some (.cells [(.int .i64 x2),(.int .i64 x3),(.int .i64 x4),(.int .i64 x5),(.int .i64 x6),(.int .i64 x7),(.int .i64 x8),(.int .i64 x9),(.bool (x10.1==1)),(.int .i64 cu.2.1),(.int .i64 cu.2.2.1),(.int .i64 cu.2.2.2.1),(.str cu.2.2.2.2.1),(.str cu.2.2.2.2.2.1),(.str cu.2.2.2.2.2.2),(.int .i64 lH.2.1),(.str lH.2.2),(.list 1 yY.1.length (DU yY.1) true),(.acc 2 0 5 Us.2.2.length true),(.int .i64 0),(.int .i64 0),(.acc 3 0 2 0 true),(.acc 4 0 4 0 true)] false false)),(some (.cells (bH Us.2.2) false true)),(some (.cells (aC []) false true)),(some (.cells (aO []) false true))])
def oz (iU:Int×aI) (x2:Int) (x3:Int) (x4:Int) (x5:Int) (x6:Int) (x7:Int) (x8:Int) (x9:Int) (x10:Int×aI) (cu:(aI×Int×Int×Int×List UInt8×List UInt8×List UInt8)) (lH:(aI×Int×List UInt8)) (yY:List Int×aI):(aI×List av)→Ex×Fast×WH:=λe=>((.exit 0),[(0,(.ptr (some (0,0)))),(2,(.ptr (some (1,0))))],[(some (.cells (fA e.1) false false)),(some (.cells [(.int .i64 x2),(.int .i64 x3),(.int .i64 x4),(.int .i64 x5),(.int .i64 x6),(.int .i64 x7),(.int .i64 x8),(.int .i64 x9),(.bool (x10.1==1)),(.int .i64 cu.2.1),(.int .i64 cu.2.2.1),(.int .i64 cu.2.2.2.1),(.str cu.2.2.2.2.1),(.str cu.2.2.2.2.2.1),(.str cu.2.2.2.2.2.2),(.int .i64 lH.2.1),(.str lH.2.2),(.list 1 yY.1.length (DU yY.1) true),(.acc 2 0 5 e.2.length true),(.int .i64 0),(.int .i64 0),(.acc 3 0 2 0 true),(.acc 4 0 4 0 true)] false false)),(some (.cells (bH e.2) false true)),(some (.cells (aC []) false true)),(some (.cells (aO []) false true))])
abbrev Jo (iU:Int×aI) (x2:Int) (x3:Int) (x4:Int) (x5:Int) (x6:Int) (x7:Int) (x8:Int) (x9:Int) (x10:Int×aI) (cu:(aI×Int×Int×Int×List UInt8×List UInt8×List UInt8)) (lH:(aI×Int×List UInt8)) (yY:List Int×aI):=dx [0,2,91,92] (kY iU x2 x3 x4 x5 x6 x7 x8 x9 x10 cu lH yY) (oz iU x2 x3 x4 x5 x6 x7 x8 x9 x10 cu lH yY)
def lQ (iU:Int×aI) (x2:Int) (x3:Int) (x4:Int) (x5:Int) (x6:Int) (x7:Int) (x8:Int) (x9:Int) (x10:Int×aI) (cu:(aI×Int×Int×Int×List UInt8×List UInt8×List UInt8)) (lH:(aI×Int×List UInt8)) (yY:List Int×aI) (Us:Int×aI×List av):Option ((Int×aI×List av)⊕((aI×List av))) :=
 cond (decide (Us.1 < iU.1)) ((iL Us.2.1).bind λ(x23:av×aI)=>gd (dh 40 (Us.2.2++[x23.1]).length) (some (.inl ((IntKind.i64.wrap (Us.1+1)),x23.2,(Us.2.2++[x23.1]))))) (some (.inr (Us.2.1,Us.2.2)))
def nY (iU:Int×aI) (x2:Int) (x3:Int) (x4:Int) (x5:Int) (x6:Int) (x7:Int) (x8:Int) (x9:Int) (x10:Int×aI) (cu:(aI×Int×Int×Int×List UInt8×List UInt8×List UInt8)) (lH:(aI×Int×List UInt8)) (yY:List Int×aI) (Us:Int×aI×List av):Option ((aI×List av)):=bT (lQ iU x2 x3 x4 x5 x6 x7 x8 x9 x10 cu lH yY) KK Us
theorem Kq (d:Nat) {iU:Int×aI} {x2:Int} {x3:Int} {x4:Int} {x5:Int} {x6:Int} {x7:Int} {x8:Int} {x9:Int} {x10:Int×aI} {cu:(aI×Int×Int×Int×List UInt8×List UInt8×List UInt8)} {lH:(aI×Int×List UInt8)} {yY:List Int×aI} {Us:Int×aI×List av} {r:(Int×aI×List av)⊕((aI×List av))} (h:lQ iU x2 x3 x4 x5 x6 x7 x8 x9 x10 cu lH yY Us=some r):bJ (aU (aB aH (d+7)) KK 128 aiF) 1 (jg [0,2,91,92] (kY iU x2 x3 x4 x5 x6 x7 x8 x9 x10 cu lH yY Us)) (Jo iU x2 x3 x4 x5 x6 x7 x8 x9 x10 cu lH yY r):=by
 unfold lQ at h
 exact bA nB alB h (.br 93 (λ_=>.bd λx23 q23=>Cl [] Fo [] (RZ (d+0) q23) <| .gd λq24=>Ap mJ 99 q24 <| .st none <| E0 [0,2,91,92]) λ_=>E0 [0,2])
theorem Kr (d:Nat) {iU:Int×aI} {x2:Int} {x3:Int} {x4:Int} {x5:Int} {x6:Int} {x7:Int} {x8:Int} {x9:Int} {x10:Int×aI} {cu:(aI×Int×Int×Int×List UInt8×List UInt8×List UInt8)} {lH:(aI×Int×List UInt8)} {yY:List Int×aI} {Us:Int×aI×List av} {r:(aI×List av)} (h:nY iU x2 x3 x4 x5 x6 x7 x8 x9 x10 cu lH yY Us=some r):bJ (eu (aU (aB aH (d+7)) KK 128 aiF) [0,2,91,92] KK) 1 (jg [0,2,91,92] (kY iU x2 x3 x4 x5 x6 x7 x8 x9 x10 cu lH yY Us)) (oz iU x2 x3 x4 x5 x6 x7 x8 x9 x10 cu lH yY r) :=
 bY (st:=kY iU x2 x3 x4 x5 x6 x7 x8 x9 x10 cu lH yY) (fin:=oz iU x2 x3 x4 x5 x6 x7 x8 x9 x10 cu lH yY) (step:=lQ iU x2 x3 x4 x5 x6 x7 x8 x9 x10 cu lH yY) (λe=>by (intro h;cases h)) (λs x h=>Kq d h) KK Us r h
def nL (p_r:aI):Option (aF×aI) :=
 (dP 8 p_r).bind λ(x1:List Int×aI)=>(bO x1.1 0).bind λ(x2:Int)=>(bO x1.1 1).bind λ(x3:Int)=>(bO x1.1 2).bind λ(x4:Int)=>(bO x1.1 3).bind λ(x5:Int)=>(bO x1.1 4).bind λ(x6:Int)=>(bO x1.1 5).bind λ(x7:Int)=>(bO x1.1 6).bind λ(x8:Int)=>(bO x1.1 7).bind λ(x9:Int)=>(eG 1 x1.2).bind λ(x10:Int×aI)=>(iY x10 x2 x3 x4 x5 x6 x7 x8 x9).bind λ(cu:(aI×Int×Int×Int×List UInt8×List UInt8×List UInt8))=>(iZ cu x2 x3 x4 x5 x6 x7 x8 x9 x10).bind λ(lH:(aI×Int×List UInt8))=>(eG 5 lH.1).bind λ(bR:Int×aI)=>(dP bR.1 bR.2).bind λ(yY:List Int×aI)=>(eG 5 yY.2).bind λ(iU:Int×aI)=>(nY iU x2 x3 x4 x5 x6 x7 x8 x9 x10 cu lH yY (0,iU.2,[])).bind λ(x25:(aI×List av))=>cond (x25.1.e==0) ((lV x25.1.b).bind λ(qo:aA×List UInt8×Int)=>some ((⟨x2,x3,x4,x5,x6,x7,x8,x9,(x10.1==1),(⟨cu.2.1,cu.2.2.1,(⟨cu.2.2.2.1,cu.2.2.2.2.1,cu.2.2.2.2.2.1,cu.2.2.2.2.2.2⟩:bD)⟩:bn),(⟨lH.2.1,lH.2.2⟩:aD),yY.1,x25.2,qo.1⟩:aF),(⟨qo.2.1,qo.2.2⟩:aI))) (some ((⟨x2,x3,x4,x5,x6,x7,x8,x9,(x10.1==1),(⟨cu.2.1,cu.2.2.1,(⟨cu.2.2.2.1,cu.2.2.2.2.1,cu.2.2.2.2.2.1,cu.2.2.2.2.2.2⟩:bD)⟩:bn),(⟨lH.2.1,lH.2.2⟩:aD),yY.1,x25.2,(⟨0,0,[],[]⟩:aA)⟩:aF),x25.1))
def Bd (p_r:aI) (r:aF×aI):AV×WH:=((.agg (bX r.1)),[(some (.cells (fA r.2) false false))])
theorem OW (d:Nat) {p_r:aI} {r:aF×aI} (h:nL p_r=some r):Spec (aB aH (d+12)) 65 [(.ptr (some (0,0)))] [(some (.cells (fA p_r) false false))] (Bd p_r r).1 (Bd p_r r).2:=by
 unfold nL at h
 exact aX (Hz _) ayB h (.z 2 [.undef,.undef,.undef,.undef,.undef,.undef,.undef,.undef,.undef,.undef,.undef,.undef,.undef,.undef,.undef,.undef,.undef,.slice none 1 0 0 true,.slice none 5 0 0 true,.undef,.undef,.slice none 2 0 0 true,.slice none 4 0 0 true] <| .bd λx1 q1=>Cl [] Fo [] (pU (d+6) q1) <| .bd λx2 q2=>Ix Jp 7 q2 <| .st none <| .bd λx3 q3=>Ix Jp 10 q3 <| .st none <| .bd λx4 q4=>Ix Jp 13 q4 <| .st none <| .bd λx5 q5=>Ix Jp 16 q5 <| .st none <| .bd λx6 q6=>Ix Jp 19 q6 <| .st none <| .bd λx7 q7=>Ix Jp 22 q7 <| .st none <| .bd λx8 q8=>Ix Jp 25 q8 <| .st none <| .bd λx9 q9=>Ix Jp 28 q9 <| .st none <| .bd λx10 KV=>Cl [] Fo [] (ug (d+5) KV) <| .st none <| .bd λcu KZ=>Jn [0,2] [none,none] [] [] (Kn (d+5) KZ) <| .bd λlH LW=>Jn [0,2] [none,none] [] [] (Ko (d+6) LW) <| .bd λbR KC=>Cl [] Fo [] (ug (d+5) KC) <| .bd λyY q16=>Cl [] Fo [] (pU (d+6) q16) <| .st none <| .bd λiU GH=>Cl [] Fo [] (ug (d+5) GH) <| .bd λx25 q25=>Lp [none,none,none,none] [Tw,Tw,Tw,Tw,Tw] [] (Kr (d+4) q25) <| .st none <| .br 110 (λ_=>.bd λqo q26=>Cl [] Fo [] (Ur (d+0) q26) <| .st none <| .st none <| .st none <| .st none <| Fn Fo [.agg [.undef,.undef,.undef,.undef,.undef,.undef,.undef,.undef,.undef,.undef,.undef,.undef,.undef,.undef,.undef,.undef,.undef,.slice none 1 0 0 true,.slice none 5 0 0 true,.undef,.undef,.slice none 2 0 0 true,.slice none 4 0 0 true]] none) λ_=>.st none <| Fn Fo [.agg [.undef,.undef,.undef,.undef,.undef,.undef,.undef,.undef,.undef,.undef,.undef,.undef,.undef,.undef,.undef,.undef,.undef,.slice none 1 0 0 true,.slice none 5 0 0 true,.undef,.undef,.slice none 2 0 0 true,.slice none 4 0 0 true]] none)
abbrev aar (x1:aF×aI):Fast×WH:=([(2,(.ptr (some (0,0)))),(4,(.ptr (some (1,0)))),(5,(.ptr (some (2,0))))],[(some (.cells [(.int .i64 0),(.int .i64 0),(.int .i64 0),(.int .i64 0),(.int .i64 0),(.int .i64 0),(.int .i64 0),(.int .i64 0),(.bool false),(.int .i64 0),(.int .i64 0),(.int .i64 0),(.str ([]:List UInt8)),(.str ([]:List UInt8)),(.str ([]:List UInt8)),(.int .i64 0),(.str ([]:List UInt8)),(.slice none 1 0 0 true),(.slice none 5 0 0 true),(.int .i64 0),(.int .i64 0),(.slice none 2 0 0 true),(.slice none 4 0 0 true)] false false)),(some (.cells (fA x1.2) false false)),(some (.cells (bX x1.1) false false))])
def X_ (x1:aF×aI):Bool→Ex×Fast×WH:=λe=>(.normal,[(2,(.ptr (some (0,0)))),(4,(.ptr (some (1,0)))),(5,(.ptr (some (2,0)))),(28,(.bool e))],[(some (.cells [(.int .i64 0),(.int .i64 0),(.int .i64 0),(.int .i64 0),(.int .i64 0),(.int .i64 0),(.int .i64 0),(.int .i64 0),(.bool false),(.int .i64 0),(.int .i64 0),(.int .i64 0),(.str ([]:List UInt8)),(.str ([]:List UInt8)),(.str ([]:List UInt8)),(.int .i64 0),(.str ([]:List UInt8)),(.slice none 1 0 0 true),(.slice none 5 0 0 true),(.int .i64 0),(.int .i64 0),(.slice none 2 0 0 true),(.slice none 4 0 0 true)] false false)),(some (.cells (fA x1.2) false false)),(some (.cells (bX x1.1) false false))])
def Dv (x1:aF×aI):Option (Bool) :=
 cond (x1.2.e==0) (cond (decide ((x1.2.b.length:Int) > 0)) (some true) ((zK x1.1).bind λ(x2:Bool)=>some (!x2))) (some false)
theorem abO (d:Nat) {x1:aF×aI} {r:Bool} (h:Dv x1=some r):bJ (aU (aB aH (d+11)) KK 43 Zl) 0 (aar x1) (X_ x1 r):=by
 unfold Dv at h
 exact bA nB abf h (.br 16 (λ_=>.br 23 (λ_=>E0 [2,4,5,28]) λ_=>.bd λx2 q2=>Cb [.agg [.undef,.undef,.undef,.undef,.undef,.undef,.undef,.undef,.undef,.undef,.undef,.undef,.undef,.undef,.undef,.undef,.undef,.slice none 1 0 0 true,.slice none 5 0 0 true,.undef,.undef,.slice none 2 0 0 true,.slice none 4 0 0 true]] (Ii (d+0) q2) <| E0 [2,4,5,28]) λ_=>E0 [2,4,5,28])
abbrev aas (x1:aF×aI):Fast×WH:=([(2,(.ptr (some (0,0)))),(4,(.ptr (some (1,0)))),(5,(.ptr (some (2,0))))],[(some (.cells [(.int .i64 0),(.int .i64 0),(.int .i64 0),(.int .i64 0),(.int .i64 0),(.int .i64 0),(.int .i64 0),(.int .i64 0),(.bool false),(.int .i64 0),(.int .i64 0),(.int .i64 0),(.str ([]:List UInt8)),(.str ([]:List UInt8)),(.str ([]:List UInt8)),(.int .i64 0),(.str ([]:List UInt8)),(.slice none 1 0 0 true),(.slice none 5 0 0 true),(.int .i64 0),(.int .i64 0),(.slice none 2 0 0 true),(.slice none 4 0 0 true)] false false)),(some (.cells (fA x1.2) false false)),(some (.cells (bX x1.1) false false))])
def Ya (x1:aF×aI):aI→Ex×Fast×WH:=λe=>(.normal,[(2,(.ptr (some (0,0)))),(4,(.ptr (some (1,0)))),(5,(.ptr (some (2,0))))],[(some (.cells [(.int .i64 0),(.int .i64 0),(.int .i64 0),(.int .i64 0),(.int .i64 0),(.int .i64 0),(.int .i64 0),(.int .i64 0),(.bool false),(.int .i64 0),(.int .i64 0),(.int .i64 0),(.str ([]:List UInt8)),(.str ([]:List UInt8)),(.str ([]:List UInt8)),(.int .i64 0),(.str ([]:List UInt8)),(.slice none 1 0 0 true),(.slice none 5 0 0 true),(.int .i64 0),(.int .i64 0),(.slice none 2 0 0 true),(.slice none 4 0 0 true)] false false)),(some (.cells (fA e) false false)),(some (.cells (bX x1.1) false false))])
def Dw (x1:aF×aI):Option (aI) :=
 (Dv x1).bind λ(x3:Bool)=>cond x3 (some (⟨x1.2.b,2⟩:aI)) (some x1.2)
theorem abP (d:Nat) {x1:aF×aI} {r:aI} (h:Dw x1=some r):bJ (aU (aB aH (d+11)) KK 43 acG) 0 (aas x1) (Ya x1 r):=by
 unfold Dw at h
 exact bA nB ad2 h (.bd λx3 q3=>Jn [2,4,5] [none,none,none] [] [] (abO (d+0) q3) <| .br 28 (λ_=>.st none <| E0 [2,4,5]) λ_=>E0 [2,4,5])
def Gh (aY:List UInt8):Option (aF×Int) :=
 (nL (⟨aY,0⟩:aI)).bind λ(x1:aF×aI)=>(Dw x1).bind λ(x4:aI)=>cond (x4.e != 0) (some ((⟨0,0,0,0,0,0,0,0,false,(⟨0,0,(⟨0,([]:List UInt8),([]:List UInt8),([]:List UInt8)⟩:bD)⟩:bn),(⟨0,([]:List UInt8)⟩:aD),[],[],(⟨0,0,[],[]⟩:aA)⟩:aF),x4.e)) (some (x1.1,0))
def Ut (aY:List UInt8) (r:aF×Int):AV×WH:=((.tuple [(.agg (bX r.1)),(.int .i64 r.2)]),[])
theorem aat (d:Nat) {aY:List UInt8} {r:aF×Int} (h:Gh aY=some r):Spec (aB aH (d+13)) 17 [(oU aY)] [] (Ut aY r).1 (Ut aY r).2:=by
 unfold Gh at h
 exact aX nB ax2 h (.z 2 [.undef,.undef,.undef,.undef,.undef,.undef,.undef,.undef,.undef,.undef,.undef,.undef,.undef,.undef,.undef,.undef,.undef,.slice none 1 0 0 true,.slice none 5 0 0 true,.undef,.undef,.slice none 2 0 0 true,.slice none 4 0 0 true] <| .bd λx1 q1=>Cl [] Fo [] (OW (d+0) q1) <| .z 5 [.undef,.undef,.undef,.undef,.undef,.undef,.undef,.undef,.undef,.undef,.undef,.undef,.undef,.undef,.undef,.undef,.undef,.slice none 1 0 0 true,.slice none 5 0 0 true,.undef,.undef,.slice none 2 0 0 true,.slice none 4 0 0 true] <| .st none <| .bd λx4 q4=>Jn [2,4,5] [none,none,none] [] [] (abP (d+1) q4) <| .br 36 (λ_=>.z 37 [.agg [.undef,.undef,.undef,.undef,.undef,.undef,.undef,.undef,.undef,.undef,.undef,.undef,.undef,.undef,.undef,.undef,.undef,.slice none 1 0 0 true,.slice none 5 0 0 true,.undef,.undef,.slice none 2 0 0 true,.slice none 4 0 0 true]] <| .st none <| Fn Fo [.tuple [.agg [.undef,.undef,.undef,.undef,.undef,.undef,.undef,.undef,.undef,.undef,.undef,.undef,.undef,.undef,.undef,.undef,.undef,.slice none 1 0 0 true,.slice none 5 0 0 true,.undef,.undef,.slice none 2 0 0 true,.slice none 4 0 0 true],.undef]] none) λ_=>.st none <| Fn Fo [.tuple [.agg [.undef,.undef,.undef,.undef,.undef,.undef,.undef,.undef,.undef,.undef,.undef,.undef,.undef,.undef,.undef,.undef,.undef,.slice none 1 0 0 true,.slice none 5 0 0 true,.undef,.undef,.slice none 2 0 0 true,.slice none 4 0 0 true],.undef]] none)
def CG (aY:List UInt8) (s2:Int):List AV×WH:=([(oU aY),(.int .i64 s2)],[])
def Gi (aY:List UInt8):Unit⊕Unit→Ex×Fast×WH:=fun
 | .inl e=>(.ret,[(4,(.int .i64 2))],[])
 | .inr e=>((.exit 0),[],[])
abbrev abQ (aY:List UInt8):=dx [0,5] (CG aY) (Gi aY)
def EP (aY:List UInt8) (s2:Int):Option ((Int)⊕(Unit⊕Unit)) :=
 cond (decide (s2 < (aY.length:Int))) ((bO aY s2).bind λ(x3:UInt8)=>cond (decide ((x3.toNat:Int) < 128)) (some (.inr (.inl ()))) (some (.inl (IntKind.i64.wrap (s2+1))))) (some (.inr (.inr ())))
def aau (aY:List UInt8) (s2:Int):Option (Unit⊕Unit):=bT (EP aY) KK s2
theorem aeJ (d:Nat) {aY:List UInt8} {s2:Int} {r:(Int)⊕(Unit⊕Unit)} (h:EP aY s2=some r):bJ (aU (aB aH (d+0)) KK 18 aeg) 0 (jg [0,5] (CG aY s2)) (abQ aY r):=by
 unfold EP at h
 exact bA nB ai3 h (.br 10 (λ_=>.bd λx3 q3=>Ix UK 15 q3 <| .br 17 (λ_=>E0 [4]) λ_=>E0 [0,5]) λ_=>E0 [])
theorem Uu (d:Nat) {aY:List UInt8} {s2:Int} {r:Unit⊕Unit} (h:aau aY s2=some r):bJ (eu (aU (aB aH (d+0)) KK 18 aeg) [0,5] KK) 0 (jg [0,5] (CG aY s2)) (Gi aY r) :=
 bY (st:=CG aY) (fin:=Gi aY) (step:=EP aY) (λe=>by rcases e with e | e<;>(intro h;cases h)) (λs x h=>aeJ d h) KK s2 r h
def aeK (aY:List UInt8) (R3:Int):Option (Int) :=
 (aau aY R3).bind λ(x4:Unit⊕Unit)=>cond (jI x4) (some 2) (some 3)
def Xd (aY:List UInt8) (R3:Int) (r:Int):AV×WH:=((.int .i64 r),[])
theorem alT (d:Nat) {aY:List UInt8} {R3:Int} {r:Int} (h:aeK aY R3=some r):Spec (aB aH (d+1)) 132 [(oU aY),(.int .i64 R3)] [] (Xd aY R3 r).1 (Xd aY R3 r).2:=by
 unfold aeK at h
 exact aX nB axa h (.bd λx4 q4=>.ite (λhb5=>Lp [none,none] [] [] (jA (il hb5) (Uu (d+0) q4)) <| Fn Fo [] none) λhb5=>Lp [none,none] [] [] (jA (zy hb5) (Uu (d+0) q4)) <| Fn Fo [] none)
end Go.Proofs.YtohoggieaanllaaGreat
