import Derived.Test.YtohoggieaanllaaGreatXt
import Derived.Test.YtohoggieaanllaaGreatXs
import Derived.Test.YtohoggieaanllaaGreatY3
set_option linter.all false
set_option maxRecDepth 100000
namespace Go.Proofs.YtohoggieaanllaaGreat
def iV (dA:bY) (s5:Int×List ak):List AV×WH:=([(.acc 1 0 4 s5.2.length true),(.agg (dF dA.cZ)),(.int .i64 s5.1)],[(some (.cells (kI dA) false false)),(some (.cells (aI s5.2) false true))])
def kF (dA:bY):(List ak)→Ex×Fast×WH:=λe=>((.exit 0),[(3,(.acc 1 0 4 e.length true))],[(some (.cells (kI dA) false false)),(some (.cells (aI e) false true))])
abbrev BH (dA:bY):=eY [3,9,10] (iV dA) (kF dA)
def fH (dA:bY) (s5:Int×List ak):Option ((Int×List ak)⊕((List ak))) :=
 cond (decide (s5.1 < 4)) ((bW ([dA.cZ.l.a0,dA.cZ.l.a1,dA.cZ.l.a2,dA.cZ.l.a3]:List ak) s5.1).bind λ(x6:ak)=>cond (decide (x6.Seq > 0)) (gd (dB 40 (s5.2++[x6]).length) (some (.inl ((IntKind.i64.wrap (s5.1+1)),(s5.2++[x6]))))) (some (.inl ((IntKind.i64.wrap (s5.1+1)),s5.2)))) (some (.inr s5.2))
def nM (dA:bY) (s5:Int×List ak):Option ((List ak)):=eG (fH dA) KK s5
theorem Co (d:Nat) {dA:bY} {s5:Int×List ak} {r:(Int×List ak)⊕((List ak))} (h:fH dA s5=some r):bX (aU (aG aH (d+0)) KK 23 Xh) 1 (mQ [3,9,10] (iV dA s5)) (BH dA r):=by
 unfold fH at h
 exact bE nB abh h (.br 11 (λ_=>.bd λx6 q6=>.v 12 (.agg (bL x6)) <| .ob (alI bQ q6:wP (.index true 4 4 (.c (.agg (aI ([dA.cZ.l.a0,dA.cZ.l.a1,dA.cZ.l.a2,dA.cZ.l.a3])))) (.c (.int .i64 s5.1)))=some (.agg (bL x6))) <| .st none <| .br 15 (λ_=>.gd λq7=>Ap bQ 19 q7 <| E1 [3,9,10] [none,none,none] [] [.slice none 4 0 0 true,.undef,.undef]) λ_=>E1 [3,9,10] [none,none,none] [] [.slice none 4 0 0 true,.undef,.undef]) λ_=>E1 [3] [none] [] [.slice none 4 0 0 true])
theorem Cq (d:Nat) {dA:bY} {s5:Int×List ak} {r:(List ak)} (h:nM dA s5=some r):bX (gq (aU (aG aH (d+0)) KK 23 Xh) [3,9,10] KK) 1 (mQ [3,9,10] (iV dA s5)) (kF dA r) :=
 dL (st:=iV dA) (fin:=kF dA) (step:=fH dA) (λe=>by (intro h;cases h)) (λs x h=>Co d h) KK s5 r h
def jM (dA:bY):Option (List ak) :=
 (nM dA (0,[])).bind λ(x8:(List ak))=>some x8
def uz (dA:bY) (r:List ak):AV×WH:=((cu r),[(some (.cells (kI dA) false false))])
theorem FU (d:Nat) {dA:bY} {r:List ak} (h:jM dA=some r):Spec (aG aH (d+2)) 118 [(.ptr (some (0,1)))] [(some (.cells (kI dA) false false))] (uz dA r).1 (uz dA r).2:=by
 unfold jM at h
 exact aW (Gj _) amK h (.z 2 [.slice none 4 0 0 true] <| .z 3 [.slice none 4 0 0 true] <| .bd λx8 q8=>Lp [Tw,none,none] [] [.slice none 4 0 0 true,.undef,.undef] (Cq (d+1) q8) <| Fn Fo [.slice none 4 0 0 true] none)
def fV (a0:List ak) (a1:List ak) (s3:Int):List AV×WH:=([(cu a0),(cu a1),(.int .i64 (a0.length:Int)),(.int .i64 s3)],[])
def h_ (a0:List ak) (a1:List ak):Unit⊕Unit→Ex×Fast×WH:=fun
 | .inl e=>(.ret,[(4,(.bool false))],[])
 | .inr e=>((.exit 0),[],[])
abbrev tL (a0:List ak) (a1:List ak):=eY [0,1,12,13] (fV a0 a1) (h_ a0 a1)
def eU (a0:List ak) (a1:List ak) (s3:Int):Option ((Int)⊕(Unit⊕Unit)) :=
 cond (decide (s3 < (a0.length:Int))) ((bW a0 s3).bind λ(x4:ak)=>(bW a1 s3).bind λ(x5:ak)=>cond (!(x4.Client==x5.Client&&(x4.Seq==x5.Seq&&(x4.Answer.Why==x5.Answer.Why&&(x4.Answer.Value==x5.Answer.Value&&true))))) (some (.inr (.inl ()))) (some (.inl (IntKind.i64.wrap (s3+1))))) (some (.inr (.inr ())))
def iO (a0:List ak) (a1:List ak) (s3:Int):Option (Unit⊕Unit):=eG (eU a0 a1) KK s3
theorem uD (d:Nat) {a0:List ak} {a1:List ak} {s3:Int} {r:(Int)⊕(Unit⊕Unit)} (h:eU a0 a1 s3=some r):bX (aU (aG aH (d+0)) KK 26 abb) 0 (mQ [0,1,12,13] (fV a0 a1 s3)) (tL a0 a1 r):=by
 unfold eU at h
 exact bE nB adJ h (.br 14 (λ_=>.bd λx4 q4=>Ix bQ 18 q4 <| .bd λx5 q5=>Ix bQ 22 q5 <| .br 24 (λ_=>E0 [4]) λ_=>E1 [0,1,12,13] [none,none,none,none] [] [.slice none 4 0 0 true,.slice none 4 0 0 true,.undef,.undef]) λ_=>E0 [])
theorem kL (d:Nat) {a0:List ak} {a1:List ak} {s3:Int} {r:Unit⊕Unit} (h:iO a0 a1 s3=some r):bX (gq (aU (aG aH (d+0)) KK 26 abb) [0,1,12,13] KK) 0 (mQ [0,1,12,13] (fV a0 a1 s3)) (h_ a0 a1 r) :=
 dL (st:=fV a0 a1) (fin:=h_ a0 a1) (step:=eU a0 a1) (λe=>by rcases e with e | e<;>(intro h;cases h)) (λs x h=>uD d h) KK s3 r h
def fu (a0:List ak) (a1:List ak):Option (Bool) :=
 cond ((a0.length:Int) != (a1.length:Int)) (some false) ((iO a0 a1 0).bind λ(x6:Unit⊕Unit)=>cond (mW x6) (some false) (some true))
def kZ (a0:List ak) (a1:List ak) (r:Bool):AV×WH:=((.bool r),[])
theorem mH (d:Nat) {a0:List ak} {a1:List ak} {r:Bool} (h:fu a0 a1=some r):Spec (aG aH (d+1)) 97 [(cu a0),(cu a1)] [] (kZ a0 a1 r).1 (kZ a0 a1 r).2:=by
 unfold fu at h
 exact aW nB aox h (.br 10 (λ_=>Fn Fo [] none) λ_=>.bd λx6 q6=>.ite (λzO=>Lp [none,none,none,none] [] [.slice none 4 0 0 true,.slice none 4 0 0 true,.undef,.undef] (nA (il zO) (kL (d+0) q6)) <| Fn Fo [] none) λzO=>Lp [none,none,none,none] [] [.slice none 4 0 0 true,.slice none 4 0 0 true,.undef,.undef] (nA (D_ zO) (kL (d+0) q6)) <| Fn Fo [] none)
abbrev I9 (aR:ak):Fast×WH:=([(1,(.ptr (some (0,0)))),(5,(.int .i64 aR.Answer.Why))],[(some (.cells (bL aR) false false))])
def GY (aR:ak):Bool→Ex×Fast×WH:=λe=>(.normal,[(1,(.ptr (some (0,0)))),(6,(.bool e))],[(some (.cells (bL aR) false false))])
def qw (aR:ak):Option (Bool) :=
 cond (aR.Answer.Why==0) (some true) (cond (aR.Answer.Why==4) (some true) (cond (aR.Answer.Why==5) (some true) (some (aR.Answer.Why==6))))
theorem J_ (d:Nat) {aR:ak} {r:Bool} (h:qw aR=some r):bX (aU (aG aH (d+0)) KK 21 PK) 0 (I9 aR) (GY aR r):=by
 unfold qw at h
 exact bE nB Sz h (.br 6 (λ_=>E0 [1,6]) λ_=>.br 6 (λ_=>E0 [1,6]) λ_=>.br 6 (λ_=>E0 [1,6]) λ_=>E0 [1,6])
def qX (aR:ak):Option (Bool) :=
 (qw aR).bind λ(x1:Bool)=>cond x1 (cond (decide ((aR.Answer.Value.length:Int)≤16)) (some (decide (aR.Seq≤4611686018427387903))) (some false)) (some false)
def BI (aR:ak) (r:Bool):AV×WH:=((.bool r),[])
theorem OD (d:Nat) {aR:ak} {r:Bool} (h:qX aR=some r):Spec (aG aH (d+1)) 121 [(.agg (bL aR))] [] (BI aR r).1 (BI aR r).2:=by
 unfold qX at h
 exact aW nB amN h (.sk <| .sk <| .sk <| .bd λx1 q1=>Jn [1,5] [none,none] [] [] (J_ (d+0) q1) <| .br 6 (λ_=>.br 16 (λ_=>Fn Fo [] none) λ_=>Fn Fo [] none) λ_=>Fn Fo [] none)
def yT (y:ak):Option (Bool) :=
 (qX y).bind λ(x1:Bool)=>some (!x1)
def Db (y:ak) (r:Bool):AV×WH:=((.bool r),[])
theorem Qz (d:Nat) {y:ak} {r:Bool} (h:yT y=some r):Spec (aG aH (d+2)) 120 [(.agg (bL y))] [] (Db y r).1 (Db y r).2:=by
 unfold yT at h
 exact aW nB amM h (.bd λx1 q1=>iF (OD (d+0) q1) <| Fn Fo [] none)
def fC (a0:List ak) (s3:Int):List AV×WH:=([(cu a0),(.func 120 []),(.int .i64 (a0.length:Int)),(.int .i64 s3)],[])
def gH (a0:List ak):Int⊕Unit→Ex×Fast×WH:=fun
 | .inl e=>(.ret,[(4,(.int .i64 e))],[])
 | .inr e=>((.exit 0),[],[])
abbrev qb (a0:List ak):=eY [0,1,7,8] (fC a0) (gH a0)
def bV (a0:List ak) (s3:Int):Option ((Int)⊕(Int⊕Unit)) :=
 cond (decide (s3 < (a0.length:Int))) ((bW a0 s3).bind λ(x4:ak)=>(yT x4).bind λ(x5:Bool)=>cond x5 (some (.inr (.inl s3))) (some (.inl (IntKind.i64.wrap (s3+1))))) (some (.inr (.inr ())))
def ig (a0:List ak) (s3:Int):Option (Int⊕Unit):=eG (bV a0) KK s3
theorem qC (d:Nat) {a0:List ak} {s3:Int} {r:(Int)⊕(Int⊕Unit)} (h:bV a0 s3=some r):bX (aU (aG aH (d+2)) KK 19 Xm) 0 (mQ [0,1,7,8] (fC a0 s3)) (qb a0 r):=by
 unfold bV at h
 exact bE nB abn h (.br 9 (λ_=>.bd λx4 q4=>Ix bQ 14 q4 <| .bd λx5 q5=>iF (Qz (d+0) q5) <| .br 16 (λ_=>E0 [4]) λ_=>E1 [0,1,7,8] [none,none,none,none] [] [.slice none 4 0 0 true,.undef,.undef,.undef]) λ_=>E0 [])
theorem jw (d:Nat) {a0:List ak} {s3:Int} {r:Int⊕Unit} (h:ig a0 s3=some r):bX (gq (aU (aG aH (d+2)) KK 19 Xm) [0,1,7,8] KK) 0 (mQ [0,1,7,8] (fC a0 s3)) (gH a0 r) :=
 dL (st:=fC a0) (fin:=gH a0) (step:=bV a0) (λe=>by rcases e with e | e<;>(intro h;cases h)) (λs x h=>qC d h) KK s3 r h
def gD (a0:List ak):Option (Int) :=
 (ig a0 0).bind λ(x6:Int⊕Unit)=>cond (mW x6) (some (Bg x6)) (some (-1))
def jN (a0:List ak) (r:Int):AV×WH:=((.int .i64 r),[])
theorem tN (d:Nat) {a0:List ak} {r:Int} (h:gD a0=some r):Spec (aG aH (d+3)) 138 [(cu a0),(.func 120 [])] [] (jN a0 r).1 (jN a0 r).2:=by
 unfold gD at h
 exact aW nB amY h (.bd λx6 q6=>.ite (λzO=>Lp [none,none,none,none] [] [.slice none 4 0 0 true,.undef,.undef,.undef] (nA (il zO) (jw (d+0) q6)) <| Fn Fo [] none) λzO=>Lp [none,none,none,none] [] [.slice none 4 0 0 true,.undef,.undef,.undef] (nA (D_ zO) (jw (d+0) q6)) <| Fn Fo [] none)
def eD (a0:List ak):Option (Bool) :=
 (gD a0).bind λ(x1:Int)=>some (decide (x1≥0))
def je (a0:List ak) (r:Bool):AV×WH:=((.bool r),[])
theorem qD (d:Nat) {a0:List ak} {r:Bool} (h:eD a0=some r):Spec (aG aH (d+4)) 119 [(cu a0),(.func 120 [])] [] (je a0 r).1 (je a0 r).2:=by
 unfold eD at h
 exact aW nB amL h (.bd λx1 q1=>Cb [.slice none 4 0 0 true] (tN (d+0) q1) <| Fn Fo [] none)
abbrev Nk (aR:aD):Fast×WH:=([(1,(.ptr (some (0,0))))],[(some (.cells (cO aR) false false))])
def LK (aR:aD):Unit⊕Unit→Ex×Fast×WH:=fun
 | .inl e=>(.ret,[(2,(.bool false))],[])
 | .inr e=>(.normal,[(1,(.ptr (some (0,0))))],[(some (.cells (cO aR) false false))])
def xg (aR:aD):Option (Unit⊕Unit) :=
 cond (decide (aR.fB < 0)) (some (.inl ())) (cond (decide (aR.fB≥6)) (some (.inl ())) (cond (decide (aR.Epoch < 1)) (some (.inl ())) (cond (decide (aR.Epoch > 1099511627776)) (some (.inl ())) (some (.inr ())))))
theorem ET (d:Nat) {aR:aD} {r:Unit⊕Unit} (h:xg aR=some r):bX (aU (aG aH (d+0)) KK 44 acE) 0 (Nk aR) (LK aR r):=by
 unfold xg at h
 exact bE nB aa7 h (.br 8 (λ_=>E0 [2]) λ_=>.br 13 (λ_=>E0 [2]) λ_=>.br 18 (λ_=>E0 [2]) λ_=>.br 22 (λ_=>E0 [2]) λ_=>E0 [1])
abbrev Nl (x3:bY) (aR:aD):Fast×WH:=([(1,(.ptr (some (0,0)))),(3,(.ptr (some (1,0))))],[(some (.cells (cO aR) false false)),(some (.cells (kI x3) false false))])
def LM (x3:bY) (aR:aD):Bool→Ex×Fast×WH:=λe=>(.normal,[(1,(.ptr (some (0,0)))),(4,(.bool e))],[(some (.cells (cO aR) false false))])
def qY (x3:bY) (aR:aD):Option (Bool) :=
 (qp x3).bind λ(x4:List au)=>(fq x4 aR.Pairs).bind λ(x5:Bool)=>cond x5 ((jM x3).bind λ(x6:List ak)=>(fu x6 aR.gB).bind λ(x7:Bool)=>some x7) (some false)
theorem OE (d:Nat) {x3:bY} {aR:aD} {r:Bool} (h:qY x3 aR=some r):bX (aU (aG aH (d+2)) KK 44 VE) 0 (Nl x3 aR) (LM x3 aR r):=by
 unfold qY at h
 exact bE nB Xc h (.bd λx4 q4=>Cl [] Fo [] (J9 (d+0) q4) <| .er <| .ob (rfl:@Eq (Option AV) (some (bK aR.Pairs)) (some (bK aR.Pairs))) <| .bd λx5 q5=>Cb [.slice none 2 0 0 true,.slice none 2 0 0 true] (mG (d+1) q5) <| .br 30 (λ_=>.bd λx6 q6=>Cl [] Fo [] (FU (d+0) q6) <| .er <| .ob (rfl:@Eq (Option AV) (some (cu aR.gB)) (some (cu aR.gB))) <| .bd λx7 q7=>Cb [.slice none 4 0 0 true,.slice none 4 0 0 true] (mH (d+1) q7) <| E0 [1,4]) λ_=>E0 [1,4])
def zA (aR:aD):Option (Bool) :=
 (xg aR).bind λ(x1:Unit⊕Unit)=>cond (mW x1) (some false) ((I8 aR).bind λ(x3:bY)=>(qY x3 aR).bind λ(x8:Bool)=>cond x8 ((eD aR.gB).bind λ(x9:Bool)=>some (!x9)) (some false))
def Gv (aR:aD) (r:Bool):AV×WH:=((.bool r),[])
theorem UM (d:Nat) {aR:aD} {r:Bool} (h:zA aR=some r):Spec (aG aH (d+9)) 90 [(.agg (cO aR))] [] (Gv aR r).1 (Gv aR r).2:=by
 unfold zA at h
 exact aW nB aou h (.sk <| .bd λx1 q1=>.ite (λhb2=>Jn [1] [none] [] [] (nA (il hb2) (ET (d+8) q1)) <| Fn Fo [] none) λhb2=>Jn [1] [none] [] [] (nA (D_ hb2) (ET (d+8) q1)) <| .bd λx3 q3=>Cl [] Fo [.agg [.undef,.undef,.slice none 2 0 0 true,.slice none 4 0 0 true]] (abz (d+0) q3) <| .z 3 [.slice none 2 0 0 true,.undef,.undef,.undef,.undef,.undef,.undef,.undef,.undef,.undef,.undef,.undef,.undef,.undef,.undef,.undef,.undef,.undef,.undef] <| .st none <| .bd λx8 q8=>Jn [1,3] [none,none] [] [] (OE (d+6) q8) <| .br 38 (λ_=>.bd λx9 q9=>Cb [.slice none 4 0 0 true] (qD (d+4) q9) <| Fn Fo [] none) λ_=>Fn Fo [] none)
def jv (aR:aD):Option (Bool) :=
 (BF aR).bind λ(x1:Bool)=>cond x1 (some true) ((zA aR).bind λ(x2:Bool)=>some x2)
def zB (aR:aD) (r:Bool):AV×WH:=((.bool r),[])
theorem u_ (d:Nat) {aR:aD} {r:Bool} (h:jv aR=some r):Spec (aG aH (d+10)) 51 [(.agg (cO aR))] [] (zB aR r).1 (zB aR r).2:=by
 unfold jv at h
 exact aW nB an6 h (.bd λx1 q1=>Cb [.agg [.undef,.undef,.slice none 2 0 0 true,.slice none 4 0 0 true]] (XC (d+8) q1) <| .br 5 (λ_=>Fn Fo [] none) λ_=>.bd λx2 q2=>Cb [.agg [.undef,.undef,.slice none 2 0 0 true,.slice none 4 0 0 true]] (UM (d+0) q2) <| Fn Fo [] none)
abbrev QA (m:aO):Fast×WH:=([(1,(.ptr (some (0,0)))),(3,(.func 43 []))],[(some (.cells (dH m) false false))])
def OG (m:aO):Bool→Ex×Fast×WH:=λe=>(.normal,[(1,(.ptr (some (0,0)))),(3,(.func 43 [])),(4,(.bool e))],[(some (.cells (dH m) false false))])
def Au (m:aO):Option (Bool) :=
 cond (decide (m.Kind < 1)) (some true) (some (decide (m.Kind > 10)))
theorem Tk (d:Nat) {m:aO} {r:Bool} (h:Au m=some r):bX (aU (aG aH (d+0)) KK 46 PE) 0 (QA m) (OG m r):=by
 unfold Au at h
 exact bE nB R9 h (.br 8 (λ_=>E0 [1,3,4]) λ_=>E0 [1,3,4])
abbrev QB (m:aO):Fast×WH:=([(1,(.ptr (some (0,0)))),(3,(.func 43 []))],[(some (.cells (dH m) false false))])
def OH (m:aO):Bool→Ex×Fast×WH:=λe=>(.normal,[(1,(.ptr (some (0,0)))),(3,(.func 43 [])),(4,(.bool e))],[(some (.cells (dH m) false false))])
def Av (m:aO):Option (Bool) :=
 (Au m).bind λ(x1:Bool)=>cond x1 (some true) ((wT m).bind λ(x2:List Int)=>(fO x2).bind λ(x3:Bool)=>some x3)
theorem Tn (d:Nat) {m:aO} {r:Bool} (h:Av m=some r):bX (aU (aG aH (d+4)) KK 46 R8) 0 (QB m) (OH m r):=by
 unfold Av at h
 exact bE nB Ul h (.bd λx1 q1=>Jn [1,3] [none,none] [] [] (Tk (d+4) q1) <| .br 4 (λ_=>E0 [1,3,4]) λ_=>.bd λx2 q2=>Cl [] Fo [.agg [.undef,.undef,.undef,.undef,.undef,.undef,.undef,.undef,.undef,.undef,.undef,.undef,.undef,.undef,.undef,.undef,.undef,.slice none 1 0 0 true,.slice none 5 0 0 true,.undef,.undef,.slice none 2 0 0 true,.slice none 4 0 0 true]] (FT (d+3) q2) <| .bd λx3 q3=>iF (nY (d+0) q3) <| E0 [1,3,4])
abbrev QC (m:aO):Fast×WH:=([(1,(.ptr (some (0,0)))),(3,(.func 43 []))],[(some (.cells (dH m) false false))])
def OI (m:aO):Unit⊕Unit→Ex×Fast×WH:=fun
 | .inl e=>(.ret,[(2,(.bool false))],[])
 | .inr e=>(.normal,[(1,(.ptr (some (0,0))))],[(some (.cells (dH m) false false))])
def Aw (m:aO):Option (Unit⊕Unit) :=
 (Av m).bind λ(x4:Bool)=>cond x4 (some (.inl ())) (cond (decide ((m.Path.length:Int) > 5)) (some (.inl ())) (cond (decide ((m.Table.length:Int) > 5)) (some (.inl ())) ((fO m.Path).bind λ(x5:Bool)=>cond x5 (some (.inl ())) ((dP m.Table).bind λ(x6:Bool)=>cond x6 (some (.inl ())) (some (.inr ()))))))
theorem I_ (d:Nat) {m:aO} {r:Unit⊕Unit} (h:Aw m=some r):bX (aU (aG aH (d+4)) KK 46 YK) 0 (QC m) (OI m r):=by
 unfold Aw at h
 exact bE nB YL h (.bd λx4 q4=>Jn [1,3] [none,none] [] [] (Tn (d+0) q4) <| .br 4 (λ_=>E0 [2]) λ_=>.br 17 (λ_=>E0 [2]) λ_=>.br 17 (λ_=>E0 [2]) λ_=>.bd λx5 q5=>iF (nY (d+0) q5) <| .br 17 (λ_=>E0 [2]) λ_=>.bd λx6 q6=>Cb [.slice none 5 0 0 true] (pJ (d+0) q6) <| .br 17 (λ_=>E0 [2]) λ_=>E0 [1])
def nN (m:aO):Option (Bool) :=
 (Aw m).bind λ(x7:Unit⊕Unit)=>cond (mW x7) (some false) ((kW m.Bl).bind λ(x9:Bool)=>cond x9 ((iU m.Answer).bind λ(x10:Bool)=>cond x10 ((jv m.nK).bind λ(dN:Bool)=>some dN) (some false)) (some false))
def KL (m:aO) (r:Bool):AV×WH:=((.bool r),[])
theorem zC (d:Nat) {m:aO} {r:Bool} (h:nN m=some r):Spec (aG aH (d+11)) 10 [(.agg (dH m))] [] (KL m r).1 (KL m r).2:=by
 unfold nN at h
 exact aW nB anN h (.sk <| .sk <| .bd λx7 q7=>.ite (λhb8=>Jn [1,3] [none,none] [] [] (nA (il hb8) (I_ (d+6) q7)) <| Fn Fo [] none) λhb8=>Jn [1,3] [none,none] [] [] (nA (D_ hb8) (I_ (d+6) q7)) <| .bd λx9 q9=>iF (yE (d+8) q9) <| .br 36 (λ_=>.bd λx10 Pz=>iF (tJ (d+9) Pz) <| .br 41 (λ_=>.bd λdN KE=>Cb [.agg [.undef,.undef,.slice none 2 0 0 true,.slice none 4 0 0 true]] (u_ (d+0) KE) <| Fn Fo [] none) λ_=>Fn Fo [] none) λ_=>Fn Fo [] none)
abbrev Tp (dN:Int) (s10:Int×List UInt8) (n:List Int):Fast×WH:=([(5,(.acc 0 0 1 s10.2.length true)),(7,(.int .i64 dN)),(10,(K_ n)),(11,(.int .i64 (n.length:Int))),(12,(.int .i64 s10.1))],[(some (.cells (Rc s10.2) false true))])
def QD (dN:Int) (s10:Int×List UInt8) (n:List Int):Unit⊕Unit→Ex×Fast×WH:=fun
 | .inl e=>(.ret,[(4,(.slice none 1 0 0 true))],[])
 | .inr e=>(.normal,[(5,(.acc 0 0 1 s10.2.length true)),(7,(.int .i64 dN)),(10,(K_ n)),(11,(.int .i64 (n.length:Int))),(12,(.int .i64 s10.1))],[(some (.cells (Rc s10.2) false true))])
def qZ (dN:Int) (s10:Int×List UInt8) (n:List Int):Option (Unit⊕Unit) :=
 cond (decide (dN < 0)) (some (.inl ())) (cond (decide (dN > 4611686018427387903)) (some (.inl ())) (some (.inr ())))
theorem KM (d:Nat) {dN:Int} {s10:Int×List UInt8} {n:List Int} {r:Unit⊕Unit} (h:qZ dN s10 n=some r):bX (aU (aG aH (d+0)) KK 41 wu) 0 (Tp dN s10 n) (QD dN s10 n r):=by
 unfold qZ at h
 exact bE nB zh h (.br 18 (λ_=>E0 [4]) λ_=>.br 21 (λ_=>E0 [4]) λ_=>E0 [5,7,10,11,12])
def xk (n:List Int) (s10:Int×List UInt8) (s15:Int×List UInt8):List AV×WH:=([(.acc 0 0 1 s15.2.length true),(.int .i64 s15.1),(K_ n),(.int .i64 (n.length:Int)),(.int .i64 s10.1)],[(some (.cells (Rc s15.2) false true))])
def zU (n:List Int) (s10:Int×List UInt8):(Int×List UInt8)→Ex×Fast×WH:=λe=>((.exit 2),[(5,(.acc 0 0 1 e.2.length true)),(7,(.int .i64 e.1)),(10,(K_ n)),(11,(.int .i64 (n.length:Int))),(12,(.int .i64 s10.1))],[(some (.cells (Rc e.2) false true))])
abbrev Tq (n:List Int) (s10:Int×List UInt8):=eY [5,7,10,11,12] (xk n s10) (zU n s10)
def jG (n:List Int) (s10:Int×List UInt8) (s15:Int×List UInt8):Option ((Int×List UInt8)⊕((Int×List UInt8))) :=
 cond (decide (s15.1 > 127)) (gd (dB 1 (s15.2++[(L6 (orI .i64 (Eo .i64 s15.1 127) 128))]).length) (some (.inl ((Uf .i64 s15.1 7),(s15.2++[(L6 (orI .i64 (Eo .i64 s15.1 127) 128))]))))) (some (.inr (s15.1,s15.2)))
def Ja (n:List Int) (s10:Int×List UInt8) (s15:Int×List UInt8):Option ((Int×List UInt8)):=eG (jG n s10) KK s15
theorem UN (d:Nat) {n:List Int} {s10:Int×List UInt8} {s15:Int×List UInt8} {r:(Int×List UInt8)⊕((Int×List UInt8))} (h:jG n s10 s15=some r):bX (aU (aG aH (d+0)) KK 41 Sk) 0 (mQ [5,7,10,11,12] (xk n s10 s15)) (Tq n s10 r):=by
 unfold jG at h
 exact bE nB VB h (.br 23 (λ_=>.v 28 (.int .u8 ((L6 (orI .i64 (Eo .i64 s15.1 127) 128)).toNat:Int)) <| .ob (aeV _:@Eq (Option AV) (some (.int .u8 (IntKind.u8.wrap (orI .i64 (Eo .i64 s15.1 127) 128)))) (some (.int .u8 ((L6 (orI .i64 (Eo .i64 s15.1 127) 128)).toNat:Int)))) <| .gd λq16=>Ap R_B 30 q16 <| E0 [5,7,10,11,12]) λ_=>E0 [5,7,10,11,12])
theorem UO (d:Nat) {n:List Int} {s10:Int×List UInt8} {s15:Int×List UInt8} {r:(Int×List UInt8)} (h:Ja n s10 s15=some r):bX (gq (aU (aG aH (d+0)) KK 41 Sk) [5,7,10,11,12] KK) 0 (mQ [5,7,10,11,12] (xk n s10 s15)) (zU n s10 r) :=
 dL (st:=xk n s10) (fin:=zU n s10) (step:=jG n s10) (λe=>by (intro h;cases h)) (λs x h=>UN d h) KK s15 r h
def xq (n:List Int) (s10:Int×List UInt8):List AV×WH:=([(.acc 0 0 1 s10.2.length true),(K_ n),(.int .i64 (n.length:Int)),(.int .i64 s10.1)],[(some (.cells (Rc s10.2) false true))])
def zV (n:List Int):Unit⊕(List UInt8)→Ex×Fast×WH:=fun
 | .inl e=>(.ret,[(4,(.slice none 1 0 0 true))],[])
 | .inr e=>((.exit 0),[(5,(.acc 0 0 1 e.length true))],[(some (.cells (Rc e) false true))])
abbrev Tt (n:List Int):=eY [5,10,11,12] (xq n) (zV n)
def uE (n:List Int) (s10:Int×List UInt8):Option ((Int×List UInt8)⊕(Unit⊕(List UInt8))) :=
 cond (decide (s10.1 < (n.length:Int))) ((bW n s10.1).bind λ(dN:Int)=>(qZ dN s10 n).bind λ(dI:Unit⊕Unit)=>cond (mW dI) (some (.inr (.inl ()))) ((Ja n s10 (dN,s10.2)).bind λ(ny:(Int×List UInt8))=>gd (dB 1 (ny.2++[(L6 ny.1)]).length) (some (.inl ((IntKind.i64.wrap (s10.1+1)),(ny.2++[(L6 ny.1)])))))) (some (.inr (.inr s10.2)))
def Jb (n:List Int) (s10:Int×List UInt8):Option (Unit⊕(List UInt8)):=eG (uE n) KK s10
theorem UQ (d:Nat) {n:List Int} {s10:Int×List UInt8} {r:(Int×List UInt8)⊕(Unit⊕(List UInt8))} (h:uE n s10=some r):bX (aU (aG aH (d+0)) KK 41 Sj) 0 (mQ [5,10,11,12] (xq n s10)) (Tt n r):=by
 unfold uE at h
 exact bE nB VA h (.br 13 (λ_=>.bd λdN KE=>Ix Fe 14 KE <| .bd λdI Ii=>.ite (λLh=>Jn [5,7,10,11,12] [none,none,none,none,none] [] [] (nA (il Lh) (KM (d+0) Ii)) <| E0 [4]) λLh=>Jn [5,7,10,11,12] [none,none,none,none,none] [] [] (nA (D_ Lh) (KM (d+0) Ii)) <| .bd λny PO=>Lp [none,none,none,none,none] [] [] (UO (d+0) PO) <| .v 35 (.int .u8 ((L6 ny.1).toNat:Int)) <| .ob (aeV _:@Eq (Option AV) (some (.int .u8 (IntKind.u8.wrap ny.1))) (some (.int .u8 ((L6 ny.1).toNat:Int)))) <| .gd λZy=>Ap R_B 37 Zy <| E0 [5,10,11,12]) λ_=>E0 [5])
theorem KN (d:Nat) {n:List Int} {s10:Int×List UInt8} {r:Unit⊕(List UInt8)} (h:Jb n s10=some r):bX (gq (aU (aG aH (d+0)) KK 41 Sj) [5,10,11,12] KK) 0 (mQ [5,10,11,12] (xq n s10)) (zV n r) :=
 dL (st:=xq n) (fin:=zV n) (step:=uE n) (λe=>by rcases e with e | e<;>(intro h;cases h)) (λs x h=>UQ d h) KK s10 r h
def kr (bG:List UInt8) (n:List Int):Option (List UInt8) :=
 gd (dB 1 bG.length) ((Jb n (0,bG)).bind λ(mR:Unit⊕(List UInt8))=>cond (mW mR) (some []) (some (WV mR)))
def Nn (bG:List UInt8) (n:List Int) (r:List UInt8):AV×WH:=((Am r),[])
theorem lg (d:Nat) {bG:List UInt8} {n:List Int} {r:List UInt8} (h:kr bG n=some r):Spec (aG aH (d+2)) 55 [(Am bG),(K_ n)] [] (Nn bG n r).1 (Nn bG n r).2:=by
 unfold kr at h
 exact aW (Gj _) amw h (.gd λq1=>.ob q1 <| .bd λmR PV=>.ite (λabA=>Lp [none,none,none,none] [] [] (nA (il abA) (KN (d+1) PV)) <| Fn Fo [] none) λabA=>Lp [none,none,none,none] [] [] (nA (D_ abA) (KN (d+1) PV)) <| Fn Fo [] none)
def Np (is:Bool):Option (Int) :=
 cond is (some 1) (some 0)
def PY (is:Bool) (r:Int):AV×WH:=((.int .i64 r),[])
theorem V6 (d:Nat) {is:Bool} {r:Int} (h:Np is=some r):Spec (aG aH (d+1)) 56 [(.bool is)] [] (PY is r).1 (PY is r).2:=by
 unfold Np at h
 exact aW nB an7 h (.br 3 (λ_=>Fn Fo [] none) λ_=>Fn Fo [] none)
abbrev OJ (dN:Int) (s10:Int×List UInt8) (n:List Int):Fast×WH:=([(5,(.acc 0 0 1 s10.2.length true)),(7,(.int .i64 dN)),(10,(K_ n)),(11,(.int .i64 (n.length:Int))),(12,(.int .i64 s10.1))],[(some (.cells (Rc s10.2) false true))])
def Nq (dN:Int) (s10:Int×List UInt8) (n:List Int):Unit⊕Unit→Ex×Fast×WH:=fun
 | .inl e=>(.ret,[(4,(.slice none 1 0 0 true))],[])
 | .inr e=>(.normal,[(5,(.acc 0 0 1 s10.2.length true)),(7,(.int .i64 dN)),(10,(K_ n)),(11,(.int .i64 (n.length:Int))),(12,(.int .i64 s10.1))],[(some (.cells (Rc s10.2) false true))])
def DY (dN:Int) (s10:Int×List UInt8) (n:List Int):Option (Unit⊕Unit) :=
 cond (decide (dN < 0)) (some (.inl ())) (cond (decide (dN > 4611686018427387903)) (some (.inl ())) (some (.inr ())))
theorem Gw (d:Nat) {dN:Int} {s10:Int×List UInt8} {n:List Int} {r:Unit⊕Unit} (h:DY dN s10 n=some r):bX (aU (aG aH (d+0)) KK 41 wu) 0 (OJ dN s10 n) (Nq dN s10 n r):=by
 unfold DY at h
 exact bE nB zh h (.br 18 (λ_=>E0 [4]) λ_=>.br 21 (λ_=>E0 [4]) λ_=>E0 [5,7,10,11,12])
def sH (n:List Int) (s10:Int×List UInt8) (s15:Int×List UInt8):List AV×WH:=([(.acc 0 0 1 s15.2.length true),(.int .i64 s15.1),(K_ n),(.int .i64 (n.length:Int)),(.int .i64 s10.1)],[(some (.cells (Rc s15.2) false true))])
def xu (n:List Int) (s10:Int×List UInt8):(Int×List UInt8)→Ex×Fast×WH:=λe=>((.exit 2),[(5,(.acc 0 0 1 e.2.length true)),(7,(.int .i64 e.1)),(10,(K_ n)),(11,(.int .i64 (n.length:Int))),(12,(.int .i64 s10.1))],[(some (.cells (Rc e.2) false true))])
abbrev OL (n:List Int) (s10:Int×List UInt8):=eY [5,7,10,11,12] (sH n s10) (xu n s10)
def uL (n:List Int) (s10:Int×List UInt8) (s15:Int×List UInt8):Option ((Int×List UInt8)⊕((Int×List UInt8))) :=
 cond (decide (s15.1 > 127)) (gd (dB 1 (s15.2++[(L6 (orI .i64 (Eo .i64 s15.1 127) 128))]).length) (some (.inl ((Uf .i64 s15.1 7),(s15.2++[(L6 (orI .i64 (Eo .i64 s15.1 127) 128))]))))) (some (.inr (s15.1,s15.2)))
def KO (n:List Int) (s10:Int×List UInt8) (s15:Int×List UInt8):Option ((Int×List UInt8)):=eG (uL n s10) KK s15
theorem QE (d:Nat) {n:List Int} {s10:Int×List UInt8} {s15:Int×List UInt8} {r:(Int×List UInt8)⊕((Int×List UInt8))} (h:uL n s10 s15=some r):bX (aU (aG aH (d+0)) KK 41 Sk) 0 (mQ [5,7,10,11,12] (sH n s10 s15)) (OL n s10 r):=by
 unfold uL at h
 exact bE nB VB h (.br 23 (λ_=>.v 28 (.int .u8 ((L6 (orI .i64 (Eo .i64 s15.1 127) 128)).toNat:Int)) <| .ob (aeV _:@Eq (Option AV) (some (.int .u8 (IntKind.u8.wrap (orI .i64 (Eo .i64 s15.1 127) 128)))) (some (.int .u8 ((L6 (orI .i64 (Eo .i64 s15.1 127) 128)).toNat:Int)))) <| .gd λq16=>Ap R_B 30 q16 <| E0 [5,7,10,11,12]) λ_=>E0 [5,7,10,11,12])
theorem QF (d:Nat) {n:List Int} {s10:Int×List UInt8} {s15:Int×List UInt8} {r:(Int×List UInt8)} (h:KO n s10 s15=some r):bX (gq (aU (aG aH (d+0)) KK 41 Sk) [5,7,10,11,12] KK) 0 (mQ [5,7,10,11,12] (sH n s10 s15)) (xu n s10 r) :=
 dL (st:=sH n s10) (fin:=xu n s10) (step:=uL n s10) (λe=>by (intro h;cases h)) (λs x h=>QE d h) KK s15 r h
def sI (n:List Int) (s10:Int×List UInt8):List AV×WH:=([(.acc 0 0 1 s10.2.length true),(K_ n),(.int .i64 (n.length:Int)),(.int .i64 s10.1)],[(some (.cells (Rc s10.2) false true))])
def xw (n:List Int):Unit⊕(List UInt8)→Ex×Fast×WH:=fun
 | .inl e=>(.ret,[(4,(.slice none 1 0 0 true))],[])
 | .inr e=>((.exit 0),[(5,(.acc 0 0 1 e.length true))],[(some (.cells (Rc e) false true))])
abbrev OM (n:List Int):=eY [5,10,11,12] (sI n) (xw n)
def uM (n:List Int) (s10:Int×List UInt8):Option ((Int×List UInt8)⊕(Unit⊕(List UInt8))) :=
 cond (decide (s10.1 < (n.length:Int))) ((bW n s10.1).bind λ(dN:Int)=>(DY dN s10 n).bind λ(dI:Unit⊕Unit)=>cond (mW dI) (some (.inr (.inl ()))) ((KO n s10 (dN,s10.2)).bind λ(ny:(Int×List UInt8))=>gd (dB 1 (ny.2++[(L6 ny.1)]).length) (some (.inl ((IntKind.i64.wrap (s10.1+1)),(ny.2++[(L6 ny.1)])))))) (some (.inr (.inr s10.2)))
def KP (n:List Int) (s10:Int×List UInt8):Option (Unit⊕(List UInt8)):=eG (uM n) KK s10
theorem QG (d:Nat) {n:List Int} {s10:Int×List UInt8} {r:(Int×List UInt8)⊕(Unit⊕(List UInt8))} (h:uM n s10=some r):bX (aU (aG aH (d+0)) KK 41 Sj) 0 (mQ [5,10,11,12] (sI n s10)) (OM n r):=by
 unfold uM at h
 exact bE nB VA h (.br 13 (λ_=>.bd λdN KE=>Ix Fe 14 KE <| .bd λdI Ii=>.ite (λLh=>Jn [5,7,10,11,12] [none,none,none,none,none] [] [] (nA (il Lh) (Gw (d+0) Ii)) <| E0 [4]) λLh=>Jn [5,7,10,11,12] [none,none,none,none,none] [] [] (nA (D_ Lh) (Gw (d+0) Ii)) <| .bd λny PO=>Lp [none,none,none,none,none] [] [] (QF (d+0) PO) <| .v 35 (.int .u8 ((L6 ny.1).toNat:Int)) <| .ob (aeV _:@Eq (Option AV) (some (.int .u8 (IntKind.u8.wrap ny.1))) (some (.int .u8 ((L6 ny.1).toNat:Int)))) <| .gd λZy=>Ap R_B 37 Zy <| E0 [5,10,11,12]) λ_=>E0 [5])
theorem Gx (d:Nat) {n:List Int} {s10:Int×List UInt8} {r:Unit⊕(List UInt8)} (h:KP n s10=some r):bX (gq (aU (aG aH (d+0)) KK 41 Sj) [5,10,11,12] KK) 0 (mQ [5,10,11,12] (sI n s10)) (xw n r) :=
 dL (st:=sI n) (fin:=xw n) (step:=uM n) (λe=>by rcases e with e | e<;>(intro h;cases h)) (λs x h=>QG d h) KK s10 r h
def BJ (bG:List UInt8) (n:List Int):Option (List UInt8) :=
 gd (dB 1 bG.length) ((KP n (0,bG)).bind λ(mR:Unit⊕(List UInt8))=>cond (mW mR) (some []) (some (WV mR)))
def nO (bG:List UInt8) (n:List Int) (r:List UInt8):AV×WH:=((.acc 0 0 1 r.length true),[(some (.cells (Rc r) false true))])
theorem XD (d:Nat) {bG:List UInt8} {n:List Int} {r:List UInt8} (h:BJ bG n=some r):Spec (aG aH (d+2)) 55 [(Am bG),(K_ n)] [] (nO bG n r).1 (nO bG n r).2:=by
 unfold BJ at h
 exact aW (Gj _) amw h (.gd λq1=>.ob q1 <| .bd λmR PV=>.ite (λabA=>Lp [none,none,none,none] [] [] (nA (il abA) (Gx (d+1) PV)) <| .y8 (.fin (some true) [] none) _ (λr=>@Eq AV (.acc 0 0 1 0 true) (nO bG n r).1∧@Eq WH [(some (.cells (Rc []) false true))] (nO bG n r).2) (by show _∧_;refine ⟨?_, ?_⟩<;>first | rfl | (simp only [nO,List.length_set,List.length_append,List.length_replicate,List.length_cons,List.length_nil,List.length_take,List.length_drop,Nat.add_zero,Nat.zero_add];done) | simp [nO])) λabA=>Lp [none,none,none,none] [] [] (nA (D_ abA) (Gx (d+1) PV)) <| Fn Tw [] none)
def uN (dA:List (List UInt8)) (s5:Int×List UInt8):List AV×WH:=([(.acc 0 0 1 s5.2.length true),(l_S dA),(.int .i64 (dA.length:Int)),(.int .i64 s5.1)],[(some (.cells (Rc s5.2) false true))])
def yF (dA:List (List UInt8)):(List UInt8)→Ex×Fast×WH:=λe=>((.exit 0),[(5,(.acc 0 0 1 e.length true))],[(some (.cells (Rc e) false true))])
abbrev QH (dA:List (List UInt8)):=eY [5,10,11,12] (uN dA) (yF dA)
def ru (dA:List (List UInt8)) (s5:Int×List UInt8):Option ((Int×List UInt8)⊕((List UInt8))) :=
 cond (decide (s5.1 < (dA.length:Int))) ((bW dA s5.1).bind λ(x6:List UInt8)=>(BJ s5.2 ([(x6.length:Int)])).bind λ(x7:List UInt8)=>gd (dB 1 (x7++x6).length) (some (.inl ((IntKind.i64.wrap (s5.1+1)),(x7++x6))))) (some (.inr s5.2))
def FV (dA:List (List UInt8)) (s5:Int×List UInt8):Option ((List UInt8)):=eG (ru dA) KK s5
theorem Tv (d:Nat) {dA:List (List UInt8)} {s5:Int×List UInt8} {r:(Int×List UInt8)⊕((List UInt8))} (h:ru dA s5=some r):bX (aU (aG aH (d+2)) KK 26 aa8) 0 (mQ [5,10,11,12] (uN dA s5)) (QH dA r):=by
 unfold ru at h
 exact bE nB adF h (.br 13 (λ_=>.bd λx6 q6=>Ix R_S 14 q6 <| .bd λx7 q7=>Cl [] Fo [] (XD (d+0) q7) <| .gd λq8=>Ap R_B 22 q8 <| E0 [5,10,11,12]) λ_=>E0 [5])
theorem Tx (d:Nat) {dA:List (List UInt8)} {s5:Int×List UInt8} {r:(List UInt8)} (h:FV dA s5=some r):bX (gq (aU (aG aH (d+2)) KK 26 aa8) [5,10,11,12] KK) 0 (mQ [5,10,11,12] (uN dA s5)) (yF dA r) :=
 dL (st:=uN dA) (fin:=yF dA) (step:=ru dA) (λe=>by (intro h;cases h)) (λs x h=>Tv d h) KK s5 r h
def yG (bG:List UInt8) (dA:List (List UInt8)):Option (List UInt8) :=
 gd (dB 1 bG.length) ((FV dA (0,bG)).bind λ(x9:(List UInt8))=>some x9)
def KQ (bG:List UInt8) (dA:List (List UInt8)) (r:List UInt8):AV×WH:=((Am r),[])
theorem Jc (d:Nat) {bG:List UInt8} {dA:List (List UInt8)} {r:List UInt8} (h:yG bG dA=some r):Spec (aG aH (d+3)) 95 [(Am bG),(l_S dA)] [] (KQ bG dA r).1 (KQ bG dA r).2:=by
 unfold yG at h
 exact aW (Gj _) aov h (.gd λq1=>.ob q1 <| .bd λx9 q9=>Lp [none,none,none,none] [] [] (Tx (d+0) q9) <| Fn Fo [] none)
def xA (bG:List UInt8) (p_r:aX):Option (List UInt8) :=
 (kW p_r).bind λ(x1:Bool)=>cond (!x1) (some []) ((kr bG ([p_r.Client,p_r.Seq,p_r.Op.Kind])).bind λ(x2:List UInt8)=>(yG x2 ([p_r.Op.Key,p_r.Op.Value,p_r.Op.Old])).bind λ(x3:List UInt8)=>some x3)
def EU (bG:List UInt8) (p_r:aX) (r:List UInt8):AV×WH:=((Am r),[])
theorem Tz (d:Nat) {bG:List UInt8} {p_r:aX} {r:List UInt8} (h:xA bG p_r=some r):Spec (aG aH (d+4)) 58 [(Am bG),(.agg (vF p_r))] [] (EU bG p_r r).1 (EU bG p_r r).2:=by
 unfold xA at h
 exact aW nB an9 h (.bd λx1 q1=>iF (yE (d+1) q1) <| .br 7 (λ_=>Fn Fo [] none) λ_=>.bd λx2 q2=>Cl [] Fo [] (lg (d+1) q2) <| .bd λx3 q3=>Cl [] Fo [] (Jc (d+0) q3) <| Fn Fo [] none)
def l6 (bG:List UInt8) (a:aA):Option (List UInt8) :=
 (iU a).bind λ(x1:Bool)=>cond (!x1) (some []) ((kr bG [a.Why]).bind λ(x2:List UInt8)=>(yG x2 [a.Value]).bind λ(x3:List UInt8)=>some x3)
def Ah (bG:List UInt8) (a:aA) (r:List UInt8):AV×WH:=((Am r),[])
theorem Dc (d:Nat) {bG:List UInt8} {a:aA} {r:List UInt8} (h:l6 bG a=some r):Spec (aG aH (d+4)) 57 [(Am bG),(.agg (dQ a))] [] (Ah bG a r).1 (Ah bG a r).2:=by
 unfold l6 at h
 exact aW nB an8 h (.bd λx1 q1=>iF (tJ (d+2) q1) <| .br 7 (λ_=>Fn Fo [] none) λ_=>.bd λx2 q2=>Cl [] Fo [] (lg (d+1) q2) <| .bd λx3 q3=>Cl [] Fo [] (Jc (d+0) q3) <| Fn Fo [] none)
def mI (aR:aD) (s5:List UInt8×Int):List AV×WH:=([(.ptr (some (0,0))),(Am s5.1),(bK aR.Pairs),(.int .i64 (aR.Pairs.length:Int)),(.int .i64 s5.2)],[(some (.cells (cO aR) false false))])
def qc (aR:aD):(List UInt8)→Ex×Fast×WH:=λe=>((.exit 0),[(3,(.ptr (some (0,0)))),(5,(Am e))],[(some (.cells (cO aR) false false))])
abbrev Jd (aR:aD):=eY [3,5,24,25,26] (mI aR) (qc aR)
def iZ (aR:aD) (s5:List UInt8×Int):Option ((List UInt8×Int)⊕((List UInt8))) :=
 cond (decide (s5.2 < (aR.Pairs.length:Int))) ((bW aR.Pairs s5.2).bind λ(x6:au)=>(yG s5.1 ([x6.Key,x6.Value])).bind λ(x7:List UInt8)=>some (.inl (x7,(IntKind.i64.wrap (s5.2+1))))) (some (.inr s5.1))
def qx (aR:aD) (s5:List UInt8×Int):Option ((List UInt8)):=eG (iZ aR) KK s5
theorem Ka (d:Nat) {aR:aD} {s5:List UInt8×Int} {r:(List UInt8×Int)⊕((List UInt8))} (h:iZ aR s5=some r):bX (aU (aG aH (d+3)) KK 63 aaT) 0 (mQ [3,5,24,25,26] (mI aR s5)) (Jd aR r):=by
 unfold iZ at h
 exact bE nB adp h (.br 27 (λ_=>.bd λx6 q6=>Ix aJ 28 q6 <| .st none <| .bd λx7 q7=>Cl [] Fo [] (Jc (d+0) q7) <| E1 [3,5,24,25,26] [none,none,none,none,none] [] [.undef,.undef,.slice none 2 0 0 true,.undef,.undef]) λ_=>E0 [3,5])
theorem Kc (d:Nat) {aR:aD} {s5:List UInt8×Int} {r:(List UInt8)} (h:qx aR s5=some r):bX (gq (aU (aG aH (d+3)) KK 63 aaT) [3,5,24,25,26] KK) 0 (mQ [3,5,24,25,26] (mI aR s5)) (qc aR r) :=
 dL (st:=mI aR) (fin:=qc aR) (step:=iZ aR) (λe=>by (intro h;cases h)) (λs x h=>Ka d h) KK s5 r h
def mJ (aR:aD) (s13:List UInt8×Int):List AV×WH:=([(Am s13.1),(cu aR.gB),(.int .i64 (aR.gB.length:Int)),(.int .i64 s13.2)],[])
def qd (aR:aD):(List UInt8)→Ex×Fast×WH:=λe=>((.exit 2),[(5,(Am e))],[])
abbrev Je (aR:aD):=eY [5,45,46,47] (mJ aR) (qd aR)
def jc (aR:aD) (s13:List UInt8×Int):Option ((List UInt8×Int)⊕((List UInt8))) :=
 cond (decide (s13.2 < (aR.gB.length:Int))) ((bW aR.gB s13.2).bind λ(kR:ak)=>(kr s13.1 ([kR.Client,kR.Seq])).bind λ(bR:List UInt8)=>(l6 bR kR.Answer).bind λ(xQ:List UInt8)=>some (.inl (xQ,(IntKind.i64.wrap (s13.2+1))))) (some (.inr s13.1))
def qy (aR:aD) (s13:List UInt8×Int):Option ((List UInt8)):=eG (jc aR) KK s13
theorem Ke (d:Nat) {aR:aD} {s13:List UInt8×Int} {r:(List UInt8×Int)⊕((List UInt8))} (h:jc aR s13=some r):bX (aU (aG aH (d+4)) KK 63 aaU) 0 (mQ [5,45,46,47] (mJ aR s13)) (Je aR r):=by
 unfold jc at h
 exact bE nB adq h (.br 48 (λ_=>.bd λkR NJ=>Ix bQ 49 NJ <| .st none <| .bd λbR Rf=>Cl [] Fo [] (lg (d+2) Rf) <| .bd λxQ q16=>Cl [] Fo [] (Dc (d+0) q16) <| E1 [5,45,46,47] [none,none,none,none] [] [.undef,.slice none 4 0 0 true,.undef,.undef]) λ_=>E0 [5])
theorem Kg (d:Nat) {aR:aD} {s13:List UInt8×Int} {r:(List UInt8)} (h:qy aR s13=some r):bX (gq (aU (aG aH (d+4)) KK 63 aaU) [5,45,46,47] KK) 0 (mQ [5,45,46,47] (mJ aR s13)) (qd aR r) :=
 dL (st:=mJ aR) (fin:=qd aR) (step:=jc aR) (λe=>by (intro h;cases h)) (λs x h=>Ke d h) KK s13 r h
def rz (bG:List UInt8) (aR:aD):Option (List UInt8) :=
 (jv aR).bind λ(x1:Bool)=>cond (!x1) (some []) ((kr bG ([aR.fB,aR.Epoch,(aR.Pairs.length:Int)])).bind λ(x2:List UInt8)=>(qx aR (x2,0)).bind λ(x8:(List UInt8))=>(kr x8 ([(aR.gB.length:Int)])).bind λ(x9:List UInt8)=>(qy aR (x9,0)).bind λ(ny:(List UInt8))=>some ny)
def BK (bG:List UInt8) (aR:aD) (r:List UInt8):AV×WH:=((Am r),[])
theorem OO (d:Nat) {bG:List UInt8} {aR:aD} {r:List UInt8} (h:rz bG aR=some r):Spec (aG aH (d+11)) 59 [(Am bG),(.agg (cO aR))] [] (BK bG aR r).1 (BK bG aR r).2:=by
 unfold rz at h
 exact aW nB aoa h (.bd λx1 q1=>Cb [.agg [.undef,.undef,.slice none 2 0 0 true,.slice none 4 0 0 true]] (u_ (d+0) q1) <| .br 12 (λ_=>Fn Fo [] none) λ_=>.bd λx2 q2=>Cl [] Fo [] (lg (d+8) q2) <| .bd λx8 q8=>Lp [none,none,none,none,none] [] [.undef,.undef,.slice none 2 0 0 true,.undef,.undef] (Kc (d+7) q8) <| .bd λx9 q9=>Cl [] Fo [] (lg (d+8) q9) <| .bd λny PO=>Lp [none,none,none,none] [] [.undef,.slice none 4 0 0 true,.undef,.undef] (Kg (d+6) PO) <| Fn Fo [] none)
def yU (m:aO) (ZG:List UInt8×Int):List AV×WH:=([(.ptr (some (0,0))),(Am ZG.1),(dK m.Table),(.int .i64 (m.Table.length:Int)),(.int .i64 ZG.2)],[(some (.cells (dH m) false false))])
def BM (m:aO):(List UInt8)→Ex×Fast×WH:=λe=>((.exit 0),[(1,(.ptr (some (0,0)))),(3,(Am e))],[(some (.cells (dH m) false false))])
abbrev UR (m:aO):=eY [1,3,40,41,42] (yU m) (BM m)
def sJ (m:aO) (ZG:List UInt8×Int):Option ((List UInt8×Int)⊕((List UInt8))) :=
 cond (decide (ZG.2 < (m.Table.length:Int))) ((bW m.Table ZG.2).bind λ(bR:av)=>(Np bR.dw).bind λ(xQ:Int)=>(kr ZG.1 ([bR.Inc,bR.Status,bR.nV,bR.Load,xQ])).bind λ(ny:List UInt8)=>some (.inl (ny,(IntKind.i64.wrap (ZG.2+1))))) (some (.inr ZG.1))
def FW (m:aO) (ZG:List UInt8×Int):Option ((List UInt8)):=eG (sJ m) KK ZG
theorem XE (d:Nat) {m:aO} {ZG:List UInt8×Int} {r:(List UInt8×Int)⊕((List UInt8))} (h:sJ m ZG=some r):bX (aU (aG aH (d+2)) KK 65 aaL) 0 (mQ [1,3,40,41,42] (yU m ZG)) (UR m r):=by
 unfold sJ at h
 exact bE nB adl h (.br 43 (λ_=>.bd λbR Rf=>Ix jK 44 Rf <| .st none <| .bd λxQ q16=>iF (V6 (d+1) q16) <| .bd λny PO=>Cl [] Fo [] (lg (d+0) PO) <| E1 [1,3,40,41,42] [none,none,none,none,none] [] [.undef,.undef,.slice none 5 0 0 true,.undef,.undef]) λ_=>E0 [1,3])
theorem XF (d:Nat) {m:aO} {ZG:List UInt8×Int} {r:(List UInt8)} (h:FW m ZG=some r):bX (gq (aU (aG aH (d+2)) KK 65 aaL) [1,3,40,41,42] KK) 0 (mQ [1,3,40,41,42] (yU m ZG)) (BM m r) :=
 dL (st:=yU m) (fin:=BM m) (step:=sJ m) (λe=>by (intro h;cases h)) (λs x h=>XE d h) KK ZG r h
def Ay (m:aO):Option (List UInt8) :=
 (nN m).bind λ(x1:Bool)=>cond (!x1) (some []) ((wT m).bind λ(x2:List Int)=>(kr [] x2).bind λ(x3:List UInt8)=>(Np m.dw).bind λ(x4:Int)=>(kr x3 [x4]).bind λ(x5:List UInt8)=>(xA x5 m.Bl).bind λ(x6:List UInt8)=>(l6 x6 m.Answer).bind λ(x7:List UInt8)=>(kr x7 ([(m.Path.length:Int)])).bind λ(x8:List UInt8)=>(kr x8 m.Path).bind λ(x9:List UInt8)=>(kr x9 ([(m.Table.length:Int)])).bind λ(x10:List UInt8)=>(FW m (x10,0)).bind λ(x18:(List UInt8))=>(rz x18 m.nK).bind λ(mR:List UInt8)=>some mR)
def PZ (m:aO) (r:List UInt8):AV×WH:=((Am r),[])
theorem OP (d:Nat) {m:aO} {r:List UInt8} (h:Ay m=some r):Spec (aG aH (d+12)) 12 [(.agg (dH m))] [] (PZ m r).1 (PZ m r).2:=by
 unfold Ay at h
 exact aW nB anO h (.bd λx1 q1=>Cb [.agg [.undef,.undef,.undef,.undef,.undef,.undef,.undef,.undef,.undef,.undef,.undef,.undef,.undef,.undef,.undef,.undef,.undef,.slice none 1 0 0 true,.slice none 5 0 0 true,.undef,.undef,.slice none 2 0 0 true,.slice none 4 0 0 true]] (zC (d+0) q1) <| .br 8 (λ_=>Fn Fo [] none) λ_=>.bd λx2 q2=>Cl [] Fo [.agg [.undef,.undef,.undef,.undef,.undef,.undef,.undef,.undef,.undef,.undef,.undef,.undef,.undef,.undef,.undef,.undef,.undef,.slice none 1 0 0 true,.slice none 5 0 0 true,.undef,.undef,.slice none 2 0 0 true,.slice none 4 0 0 true]] (FT (d+10) q2) <| .bd λx3 q3=>Cl [] Fo [] (lg (d+9) q3) <| .bd λx4 q4=>iF (V6 (d+10) q4) <| .bd λx5 q5=>Cl [] Fo [] (lg (d+9) q5) <| .bd λx6 q6=>Cl [] Fo [] (Tz (d+7) q6) <| .bd λx7 q7=>Cl [] Fo [] (Dc (d+7) q7) <| .bd λx8 q8=>Cl [] Fo [] (lg (d+9) q8) <| .er <| .ob (rfl:@Eq (Option AV) (some (K_ m.Path)) (some (K_ m.Path))) <| .bd λx9 q9=>Cl [] Fo [] (lg (d+9) q9) <| .bd λx10 Pz=>Cl [] Fo [] (lg (d+9) Pz) <| .bd λx18 Zy=>Lp [none,none,none,none,none] [] [.undef,.undef,.slice none 5 0 0 true,.undef,.undef] (XF (d+9) Zy) <| .bd λmR PV=>Cl [] Fo [.undef,.agg [.undef,.undef,.slice none 2 0 0 true,.slice none 4 0 0 true]] (OO (d+0) PV) <| Fn Fo [] none)
def iW (a0:List Int) (a1:List Int) (s3:Int):List AV×WH:=([(K_ a0),(K_ a1),(.int .i64 (a0.length:Int)),(.int .i64 s3)],[])
def kG (a0:List Int) (a1:List Int):Unit⊕Unit→Ex×Fast×WH:=fun
 | .inl e=>(.ret,[(4,(.bool false))],[])
 | .inr e=>((.exit 0),[],[])
abbrev BN (a0:List Int) (a1:List Int):=eY [0,1,12,13] (iW a0 a1) (kG a0 a1)
def iy (a0:List Int) (a1:List Int) (s3:Int):Option ((Int)⊕(Unit⊕Unit)) :=
 cond (decide (s3 < (a0.length:Int))) ((bW a0 s3).bind λ(x4:Int)=>(bW a1 s3).bind λ(x5:Int)=>cond (x4 != x5) (some (.inr (.inl ()))) (some (.inl (IntKind.i64.wrap (s3+1))))) (some (.inr (.inr ())))
def nP (a0:List Int) (a1:List Int) (s3:Int):Option (Unit⊕Unit):=eG (iy a0 a1) KK s3
theorem Cr (d:Nat) {a0:List Int} {a1:List Int} {s3:Int} {r:(Int)⊕(Unit⊕Unit)} (h:iy a0 a1 s3=some r):bX (aU (aG aH (d+0)) KK 26 aaV) 0 (mQ [0,1,12,13] (iW a0 a1 s3)) (BN a0 a1 r):=by
 unfold iy at h
 exact bE nB ads h (.br 14 (λ_=>.bd λx4 q4=>Ix Fe 18 q4 <| .bd λx5 q5=>Ix Fe 22 q5 <| .br 24 (λ_=>E0 [4]) λ_=>E0 [0,1,12,13]) λ_=>E0 [])
theorem sW (d:Nat) {a0:List Int} {a1:List Int} {s3:Int} {r:Unit⊕Unit} (h:nP a0 a1 s3=some r):bX (gq (aU (aG aH (d+0)) KK 26 aaV) [0,1,12,13] KK) 0 (mQ [0,1,12,13] (iW a0 a1 s3)) (kG a0 a1 r) :=
 dL (st:=iW a0 a1) (fin:=kG a0 a1) (step:=iy a0 a1) (λe=>by rcases e with e | e<;>(intro h;cases h)) (λs x h=>Cr d h) KK s3 r h
def iM (a0:List Int) (a1:List Int):Option (Bool) :=
 cond ((a0.length:Int) != (a1.length:Int)) (some false) ((nP a0 a1 0).bind λ(x6:Unit⊕Unit)=>cond (mW x6) (some false) (some true))
def uF (a0:List Int) (a1:List Int) (r:Bool):AV×WH:=((.bool r),[])
theorem xB (d:Nat) {a0:List Int} {a1:List Int} {r:Bool} (h:iM a0 a1=some r):Spec (aG aH (d+1)) 60 [(K_ a0),(K_ a1)] [] (uF a0 a1 r).1 (uF a0 a1 r).2:=by
 unfold iM at h
 exact aW nB aob h (.br 10 (λ_=>Fn Fo [] none) λ_=>.bd λx6 q6=>.ite (λzO=>Lp [none,none,none,none] [] [] (nA (il zO) (sW (d+0) q6)) <| Fn Fo [] none) λzO=>Lp [none,none,none,none] [] [] (nA (D_ zO) (sW (d+0) q6)) <| Fn Fo [] none)
def fJ (a0:List av) (a1:List av) (s3:Int):List AV×WH:=([(dK a0),(dK a1),(.int .i64 (a0.length:Int)),(.int .i64 s3)],[])
def gQ (a0:List av) (a1:List av):Unit⊕Unit→Ex×Fast×WH:=fun
 | .inl e=>(.ret,[(4,(.bool false))],[])
 | .inr e=>((.exit 0),[],[])
abbrev rA (a0:List av) (a1:List av):=eY [0,1,12,13] (fJ a0 a1) (gQ a0 a1)
def fP (a0:List av) (a1:List av) (s3:Int):Option ((Int)⊕(Unit⊕Unit)) :=
 cond (decide (s3 < (a0.length:Int))) ((bW a0 s3).bind λ(x4:av)=>(bW a1 s3).bind λ(x5:av)=>cond (!(x4.Inc==x5.Inc&&(x4.Status==x5.Status&&(x4.nV==x5.nV&&(x4.Load==x5.Load&&(x4.dw==x5.dw&&true)))))) (some (.inr (.inl ()))) (some (.inl (IntKind.i64.wrap (s3+1))))) (some (.inr (.inr ())))
def kM (a0:List av) (a1:List av) (s3:Int):Option (Unit⊕Unit):=eG (fP a0 a1) KK s3
theorem sK (d:Nat) {a0:List av} {a1:List av} {s3:Int} {r:(Int)⊕(Unit⊕Unit)} (h:fP a0 a1 s3=some r):bX (aU (aG aH (d+0)) KK 26 aaW) 0 (mQ [0,1,12,13] (fJ a0 a1 s3)) (rA a0 a1 r):=by
 unfold fP at h
 exact bE nB adu h (.br 14 (λ_=>.bd λx4 q4=>Ix jK 18 q4 <| .bd λx5 q5=>Ix jK 22 q5 <| .br 24 (λ_=>E0 [4]) λ_=>E1 [0,1,12,13] [none,none,none,none] [] [.slice none 5 0 0 true,.slice none 5 0 0 true,.undef,.undef]) λ_=>E0 [])
theorem jU (d:Nat) {a0:List av} {a1:List av} {s3:Int} {r:Unit⊕Unit} (h:kM a0 a1 s3=some r):bX (gq (aU (aG aH (d+0)) KK 26 aaW) [0,1,12,13] KK) 0 (mQ [0,1,12,13] (fJ a0 a1 s3)) (gQ a0 a1 r) :=
 dL (st:=fJ a0 a1) (fin:=gQ a0 a1) (step:=fP a0 a1) (λe=>by rcases e with e | e<;>(intro h;cases h)) (λs x h=>sK d h) KK s3 r h
def gL (a0:List av) (a1:List av):Option (Bool) :=
 cond ((a0.length:Int) != (a1.length:Int)) (some false) ((kM a0 a1 0).bind λ(x6:Unit⊕Unit)=>cond (mW x6) (some false) (some true))
def ku (a0:List av) (a1:List av) (r:Bool):AV×WH:=((.bool r),[])
theorem vg (d:Nat) {a0:List av} {a1:List av} {r:Bool} (h:gL a0 a1=some r):Spec (aG aH (d+1)) 61 [(dK a0),(dK a1)] [] (ku a0 a1 r).1 (ku a0 a1 r).2:=by
 unfold gL at h
 exact aW nB aoc h (.br 10 (λ_=>Fn Fo [] none) λ_=>.bd λx6 q6=>.ite (λzO=>Lp [none,none,none,none] [] [.slice none 5 0 0 true,.slice none 5 0 0 true,.undef,.undef] (nA (il zO) (jU (d+0) q6)) <| Fn Fo [] none) λzO=>Lp [none,none,none,none] [] [.slice none 5 0 0 true,.slice none 5 0 0 true,.undef,.undef] (nA (D_ zO) (jU (d+0) q6)) <| Fn Fo [] none)
def AU (a:aD) (bG:aD):Option (Bool) :=
 cond (a.fB==bG.fB) (cond (a.Epoch==bG.Epoch) ((fq a.Pairs bG.Pairs).bind λ(x1:Bool)=>cond x1 ((fu a.gB bG.gB).bind λ(x2:Bool)=>some x2) (some false)) (some false)) (some false)
def KR (a:aD) (bG:aD) (r:Bool):AV×WH:=((.bool r),[])
theorem ZH (d:Nat) {a:aD} {bG:aD} {r:Bool} (h:AU a bG=some r):Spec (aG aH (d+2)) 62 [(.agg (cO a)),(.agg (cO bG))] [] (KR a bG r).1 (KR a bG r).2:=by
 unfold AU at h
 exact aW nB aod h (.br 10 (λ_=>.br 17 (λ_=>.bd λx1 q1=>Cb [.slice none 2 0 0 true,.slice none 2 0 0 true] (mG (d+0) q1) <| .br 24 (λ_=>.bd λx2 q2=>Cb [.slice none 4 0 0 true,.slice none 4 0 0 true] (mH (d+0) q2) <| Fn Fo [] none) λ_=>Fn Fo [] none) λ_=>Fn Fo [] none) λ_=>Fn Fo [] none)
def xC (a:aO) (bG:aO):Option (Bool) :=
 (wT a).bind λ(x1:List Int)=>(wT bG).bind λ(x2:List Int)=>(iM x1 x2).bind λ(x3:Bool)=>cond x3 (cond (a.dw==bG.dw) (cond (a.Bl.Client==bG.Bl.Client&&(a.Bl.Seq==bG.Bl.Seq&&(a.Bl.Op.Kind==bG.Bl.Op.Kind&&(a.Bl.Op.Key==bG.Bl.Op.Key&&(a.Bl.Op.Value==bG.Bl.Op.Value&&(a.Bl.Op.Old==bG.Bl.Op.Old&&true)))))) (cond (a.Answer.Why==bG.Answer.Why&&(a.Answer.Value==bG.Answer.Value&&true)) ((iM a.Path bG.Path).bind λ(x4:Bool)=>cond x4 ((gL a.Table bG.Table).bind λ(x5:Bool)=>cond x5 ((AU a.nK bG.nK).bind λ(x6:Bool)=>some x6) (some false)) (some false)) (some false)) (some false)) (some false)) (some false)
def Nr (a:aO) (bG:aO) (r:Bool):AV×WH:=((.bool r),[])
theorem LP (d:Nat) {a:aO} {bG:aO} {r:Bool} (h:xC a bG=some r):Spec (aG aH (d+3)) 13 [(.agg (dH a)),(.agg (dH bG))] [] (Nr a bG r).1 (Nr a bG r).2:=by
 unfold xC at h
 exact aW nB anP h (.bd λx1 q1=>Cl [] Fo [.agg [.undef,.undef,.undef,.undef,.undef,.undef,.undef,.undef,.undef,.undef,.undef,.undef,.undef,.undef,.undef,.undef,.undef,.slice none 1 0 0 true,.slice none 5 0 0 true,.undef,.undef,.slice none 2 0 0 true,.slice none 4 0 0 true]] (FT (d+1) q1) <| .bd λx2 q2=>Cl [] Fo [.agg [.undef,.undef,.undef,.undef,.undef,.undef,.undef,.undef,.undef,.undef,.undef,.undef,.undef,.undef,.undef,.undef,.undef,.slice none 1 0 0 true,.slice none 5 0 0 true,.undef,.undef,.slice none 2 0 0 true,.slice none 4 0 0 true]] (FT (d+1) q2) <| .bd λx3 q3=>iF (xB (d+1) q3) <| .br 10 (λ_=>.br 17 (λ_=>.br 24 (λ_=>.br 31 (λ_=>.bd λx4 q4=>iF (xB (d+1) q4) <| .br 38 (λ_=>.bd λx5 q5=>Cb [.slice none 5 0 0 true,.slice none 5 0 0 true] (vg (d+1) q5) <| .br 45 (λ_=>.bd λx6 q6=>Cb [.agg [.undef,.undef,.slice none 2 0 0 true,.slice none 4 0 0 true],.agg [.undef,.undef,.slice none 2 0 0 true,.slice none 4 0 0 true]] (ZH (d+0) q6) <| Fn Fo [] none) λ_=>Fn Fo [] none) λ_=>Fn Fo [] none) λ_=>Fn Fo [] none) λ_=>Fn Fo [] none) λ_=>Fn Fo [] none) λ_=>Fn Fo [] none)
def oL (a:List av) (bG:List av) (s3:Int):List AV×WH:=([(dK a),(dK bG),(.int .i64 s3)],[])
def tO (a:List av) (bG:List av):Unit⊕Unit→Ex×Fast×WH:=fun
 | .inl e=>(.ret,[(4,(.bool false))],[])
 | .inr e=>((.exit 0),[],[])
abbrev LQ (a:List av) (bG:List av):=eY [0,1,5] (oL a bG) (tO a bG)
def mK (a:List av) (bG:List av) (s3:Int):Option ((Int)⊕(Unit⊕Unit)) :=
 cond (decide (s3 < (a.length:Int))) ((bW a s3).bind λ(x4:av)=>(bW bG s3).bind λ(x5:av)=>cond (!(x4.Inc==x5.Inc&&(x4.Status==x5.Status&&(x4.nV==x5.nV&&(x4.Load==x5.Load&&(x4.dw==x5.dw&&true)))))) (some (.inr (.inl ()))) (some (.inl (IntKind.i64.wrap (s3+1))))) (some (.inr (.inr ())))
def zW (a:List av) (bG:List av) (s3:Int):Option (Unit⊕Unit):=eG (mK a bG) KK s3
theorem Ns (d:Nat) {a:List av} {bG:List av} {s3:Int} {r:(Int)⊕(Unit⊕Unit)} (h:mK a bG s3=some r):bX (aU (aG aH (d+0)) KK 26 aaX) 0 (mQ [0,1,5] (oL a bG s3)) (LQ a bG r):=by
 unfold mK at h
 exact bE nB adw h (.br 14 (λ_=>.bd λx4 q4=>Ix jK 19 q4 <| .bd λx5 q5=>Ix jK 23 q5 <| .br 25 (λ_=>E0 [4]) λ_=>E1 [0,1,5] [none,none,none] [] [.slice none 5 0 0 true,.slice none 5 0 0 true,.undef]) λ_=>E0 [])
theorem Df (d:Nat) {a:List av} {bG:List av} {s3:Int} {r:Unit⊕Unit} (h:zW a bG s3=some r):bX (gq (aU (aG aH (d+0)) KK 26 aaX) [0,1,5] KK) 0 (mQ [0,1,5] (oL a bG s3)) (tO a bG r) :=
 dL (st:=oL a bG) (fin:=tO a bG) (step:=mK a bG) (λe=>by rcases e with e | e<;>(intro h;cases h)) (λs x h=>Ns d h) KK s3 r h
def xD (a:List av) (bG:List av):Option (Bool) :=
 cond ((a.length:Int) != (bG.length:Int)) (some false) ((zW a bG 0).bind λ(x6:Unit⊕Unit)=>cond (mW x6) (some false) (some true))
def EW (a:List av) (bG:List av) (r:Bool):AV×WH:=((.bool r),[])
theorem TA (d:Nat) {a:List av} {bG:List av} {r:Bool} (h:xD a bG=some r):Spec (aG aH (d+1)) 63 [(dK a),(dK bG)] [] (EW a bG r).1 (EW a bG r).2:=by
 unfold xD at h
 exact aW nB aoe h (.br 10 (λ_=>Fn Fo [] none) λ_=>.bd λx6 q6=>.ite (λzO=>Lp [none,none,none] [] [.slice none 5 0 0 true,.slice none 5 0 0 true,.undef] (nA (il zO) (Df (d+0) q6)) <| Fn Fo [] none) λzO=>Lp [none,none,none] [] [.slice none 5 0 0 true,.slice none 5 0 0 true,.undef] (nA (D_ zO) (Df (d+0) q6)) <| Fn Fo [] none)
abbrev OQ (a:aO) (bG:aO):Fast×WH:=([(2,(.ptr (some (0,0)))),(3,(.ptr (some (1,0))))],[(some (.cells (dH a) false false)),(some (.cells (dH bG) false false))])
def Nt (a:aO) (bG:aO):Unit⊕Unit→Ex×Fast×WH:=fun
 | .inl e=>(.ret,[(4,(.bool false))],[])
 | .inr e=>(.normal,[(2,(.ptr (some (0,0)))),(3,(.ptr (some (1,0))))],[(some (.cells (dH a) false false)),(some (.cells (dH bG) false false))])
def D5 (a:aO) (bG:aO):Option (Unit⊕Unit) :=
 cond (a.Kind != bG.Kind) (some (.inl ())) (cond (a.From != bG.From) (some (.inl ())) (cond (a.To != bG.To) (some (.inl ())) (cond (a.fB != bG.fB) (some (.inl ())) (cond (a.Epoch != bG.Epoch) (some (.inl ())) (cond (a.Weight != bG.Weight) (some (.inl ())) (cond (a.Load != bG.Load) (some (.inl ())) (cond (a.m_ != bG.m_) (some (.inl ())) (cond (!(a.dw==bG.dw)) (some (.inl ())) (cond (!(a.Bl.Client==bG.Bl.Client&&(a.Bl.Seq==bG.Bl.Seq&&(a.Bl.Op.Kind==bG.Bl.Op.Kind&&(a.Bl.Op.Key==bG.Bl.Op.Key&&(a.Bl.Op.Value==bG.Bl.Op.Value&&(a.Bl.Op.Old==bG.Bl.Op.Old&&true))))))) (some (.inl ())) (cond (!(a.Answer.Why==bG.Answer.Why&&(a.Answer.Value==bG.Answer.Value&&true))) (some (.inl ())) (cond ((a.Path.length:Int) != (bG.Path.length:Int)) (some (.inl ())) ((xD a.Table bG.Table).bind λ(x1:Bool)=>cond (!x1) (some (.inl ())) (some (.inr ()))))))))))))))
theorem Gy (d:Nat) {a:aO} {bG:aO} {r:Unit⊕Unit} (h:D5 a bG=some r):bX (aU (aG aH (d+1)) KK 121 acB) 0 (OQ a bG) (Nt a bG r):=by
 unfold D5 at h
 exact bE nB aaN h (.br 11 (λ_=>E0 [4]) λ_=>.br 18 (λ_=>E0 [4]) λ_=>.br 25 (λ_=>E0 [4]) λ_=>.br 32 (λ_=>E0 [4]) λ_=>.br 39 (λ_=>E0 [4]) λ_=>.br 46 (λ_=>E0 [4]) λ_=>.br 53 (λ_=>E0 [4]) λ_=>.br 60 (λ_=>E0 [4]) λ_=>.br 67 (λ_=>E0 [4]) λ_=>.br 74 (λ_=>E0 [4]) λ_=>.br 81 (λ_=>E0 [4]) λ_=>.br 90 (λ_=>E0 [4]) λ_=>.bd λx1 q1=>Cb [.slice none 5 0 0 true,.slice none 5 0 0 true] (TA (d+0) q1) <| .br 97 (λ_=>E0 [4]) λ_=>E0 [2,3])
def sM (a:aO) (bG:aO) (s6:Int):List AV×WH:=([(.ptr (some (0,0))),(.ptr (some (1,0))),(.int .i64 s6)],[(some (.cells (dH a) false false)),(some (.cells (dH bG) false false))])
def xE (a:aO) (bG:aO):Unit⊕Unit→Ex×Fast×WH:=fun
 | .inl e=>(.ret,[(4,(.bool false))],[])
 | .inr e=>((.exit 0),[(2,(.ptr (some (0,0)))),(3,(.ptr (some (1,0))))],[(some (.cells (dH a) false false)),(some (.cells (dH bG) false false))])
abbrev OT (a:aO) (bG:aO):=eY [2,3,5] (sM a bG) (xE a bG)
def uO (a:aO) (bG:aO) (s6:Int):Option ((Int)⊕(Unit⊕Unit)) :=
 cond (decide (s6 < (a.Path.length:Int))) ((bW a.Path s6).bind λ(x7:Int)=>(bW bG.Path s6).bind λ(x8:Int)=>cond (x7 != x8) (some (.inr (.inl ()))) (some (.inl (IntKind.i64.wrap (s6+1))))) (some (.inr (.inr ())))
def KS (a:aO) (bG:aO) (s6:Int):Option (Unit⊕Unit):=eG (uO a bG) KK s6
theorem QI (d:Nat) {a:aO} {bG:aO} {s6:Int} {r:(Int)⊕(Unit⊕Unit)} (h:uO a bG s6=some r):bX (aU (aG aH (d+0)) KK 121 aaO) 0 (mQ [2,3,5] (sM a bG s6)) (OT a bG r):=by
 unfold uO at h
 exact bE nB adn h (.br 102 (λ_=>.bd λx7 q7=>Ix Fe 108 q7 <| .bd λx8 q8=>Ix Fe 113 q8 <| .br 115 (λ_=>E0 [4]) λ_=>E0 [2,3,5]) λ_=>E0 [2,3])
theorem Gz (d:Nat) {a:aO} {bG:aO} {s6:Int} {r:Unit⊕Unit} (h:KS a bG s6=some r):bX (gq (aU (aG aH (d+0)) KK 121 aaO) [2,3,5] KK) 0 (mQ [2,3,5] (sM a bG s6)) (xE a bG r) :=
 dL (st:=sM a bG) (fin:=xE a bG) (step:=uO a bG) (λe=>by rcases e with e | e<;>(intro h;cases h)) (λs x h=>QI d h) KK s6 r h
def TB (a:aO) (bG:aO):Option (Bool) :=
 (D5 a bG).bind λ(x2:Unit⊕Unit)=>cond (mW x2) (some false) ((KS a bG 0).bind λ(x9:Unit⊕Unit)=>cond (mW x9) (some false) ((FR a.nK bG.nK).bind λ(dN:Bool)=>some dN))
def Jf (a:aO) (bG:aO) (r:Bool):AV×WH:=((.bool r),[])
theorem akD (d:Nat) {a:aO} {bG:aO} {r:Bool} (h:TB a bG=some r):Spec (aG aH (d+2)) 14 [(.agg (dH a)),(.agg (dH bG))] [] (Jf a bG r).1 (Jf a bG r).2:=by
 unfold TB at h
 exact aW nB anQ h (.sk <| .bd λx2 q2=>.ite (λhb3=>Jn [2,3] [none,none] [] [] (nA (il hb3) (Gy (d+0) q2)) <| Fn Fo [] none) λhb3=>Jn [2,3] [none,none] [] [] (nA (D_ hb3) (Gy (d+0) q2)) <| .bd λx9 q9=>.ite (λabB=>Lp [none,none,none] [] [] (nA (il abB) (Gz (d+1) q9)) <| Fn Fo [] none) λabB=>Lp [none,none,none] [] [] (nA (D_ abB) (Gz (d+1) q9)) <| .bd λdN KE=>Cb [.agg [.undef,.undef,.slice none 2 0 0 true,.slice none 4 0 0 true],.agg [.undef,.undef,.slice none 2 0 0 true,.slice none 4 0 0 true]] (Ti (d+0) KE) <| Fn Fo [] none)
def Jg (c:UInt8):Option (Bool) :=
 some (((L6 (Eo .u8 (c.toNat:Int) 128)).toNat:Int)==0)
def GA (c:UInt8) (r:Bool):AV×WH:=((.bool r),[])
theorem UU (d:Nat) {c:UInt8} {r:Bool} (h:Jg c=some r):Spec (aG aH (d+1)) 144 [(.int .u8 (c.toNat:Int))] [] (GA c r).1 (GA c r).2:=by
 unfold Jg at h
 exact aW nB am4 h (.v 4 (.int .u8 ((L6 (Eo .u8 (c.toNat:Int) 128)).toNat:Int)) <| .ob (ak2 rfl:@Eq (Option AV) (some (.int .u8 (Eo .u8 (c.toNat:Int) 128))) (some (.int .u8 ((L6 (Eo .u8 (c.toNat:Int) 128)).toNat:Int)))) <| Fn Fo [] none)
def gM (a0:List UInt8) (s3:Int):List AV×WH:=([(Am a0),(.func 144 []),(.int .i64 (a0.length:Int)),(.int .i64 s3)],[])
def iP (a0:List UInt8):Int⊕Unit→Ex×Fast×WH:=fun
 | .inl e=>(.ret,[(4,(.int .i64 e))],[])
 | .inr e=>((.exit 0),[],[])
abbrev xG (a0:List UInt8):=eY [0,1,7,8] (gM a0) (iP a0)
def gV (a0:List UInt8) (s3:Int):Option ((Int)⊕(Int⊕Unit)) :=
 cond (decide (s3 < (a0.length:Int))) ((bW a0 s3).bind λ(x4:UInt8)=>(Jg x4).bind λ(x5:Bool)=>cond x5 (some (.inr (.inl s3))) (some (.inl (IntKind.i64.wrap (s3+1))))) (some (.inr (.inr ())))
def nZ (a0:List UInt8) (s3:Int):Option (Int⊕Unit):=eG (gV a0) KK s3
theorem xR (d:Nat) {a0:List UInt8} {s3:Int} {r:(Int)⊕(Int⊕Unit)} (h:gV a0 s3=some r):bX (aU (aG aH (d+1)) KK 19 Xo) 0 (mQ [0,1,7,8] (gM a0 s3)) (xG a0 r):=by
 unfold gV at h
 exact bE nB abp h (.br 9 (λ_=>.bd λx4 q4=>Ix R_B 14 q4 <| .bd λx5 q5=>iF (UU (d+0) q5) <| .br 16 (λ_=>E0 [4]) λ_=>E0 [0,1,7,8]) λ_=>E0 [])
theorem ni (d:Nat) {a0:List UInt8} {s3:Int} {r:Int⊕Unit} (h:nZ a0 s3=some r):bX (gq (aU (aG aH (d+1)) KK 19 Xo) [0,1,7,8] KK) 0 (mQ [0,1,7,8] (gM a0 s3)) (iP a0 r) :=
 dL (st:=gM a0) (fin:=iP a0) (step:=gV a0) (λe=>by rcases e with e | e<;>(intro h;cases h)) (λs x h=>xR d h) KK s3 r h
def lq (a0:List UInt8):Option (Int) :=
 (nZ a0 0).bind λ(x6:Int⊕Unit)=>cond (mW x6) (some (Bg x6)) (some (-1))
def nQ (a0:List UInt8) (r:Int):AV×WH:=((.int .i64 r),[])
theorem zX (d:Nat) {a0:List UInt8} {r:Int} (h:lq a0=some r):Spec (aG aH (d+2)) 143 [(Am a0),(.func 144 [])] [] (nQ a0 r).1 (nQ a0 r).2:=by
 unfold lq at h
 exact aW nB am3 h (.bd λx6 q6=>.ite (λzO=>Lp [none,none,none,none] [] [] (nA (il zO) (ni (d+0) q6)) <| Fn Fo [] none) λzO=>Lp [none,none,none,none] [] [] (nA (D_ zO) (ni (d+0) q6)) <| Fn Fo [] none)
abbrev QJ (x1:Int) (bG:List UInt8):Fast×WH:=([(0,(Am bG)),(2,(.int .i64 0)),(5,(.int .i64 x1))],[])
def OU (x1:Int) (bG:List UInt8):Unit⊕Unit→Ex×Fast×WH:=fun
 | .inl e=>(.ret,[(2,(.int .i64 0)),(3,(.int .i64 0)),(4,(.int .i64 2))],[])
 | .inr e=>(.normal,[(0,(Am bG)),(2,(.int .i64 0)),(5,(.int .i64 x1))],[])
def FX (x1:Int) (bG:List UInt8):Option (Unit⊕Unit) :=
 cond (decide (x1≥9)) (some (.inl ())) (cond (decide (x1 > 0)) ((bW bG x1).bind λ(x2:UInt8)=>cond ((x2.toNat:Int)==0) (some (.inl ())) (some (.inr ()))) (some (.inr ())))
theorem Jh (d:Nat) {x1:Int} {bG:List UInt8} {r:Unit⊕Unit} (h:FX x1 bG=some r):bX (aU (aG aH (d+0)) KK 47 SB) 0 (QJ x1 bG) (OU x1 bG r):=by
 unfold FX at h
 exact bE nB Ur h (.br 13 (λ_=>E0 [2,3,4]) λ_=>.br 16 (λ_=>.bd λx2 q2=>Ix R_B 19 q2 <| .br 23 (λ_=>E0 [2,3,4]) λ_=>E0 [0,2,5]) λ_=>E0 [0,2,5])
def uP (bG:List UInt8) (x1:Int) (s6:Int×Int):List AV×WH:=([(Am bG),(.int .i64 s6.1),(.int .i64 x1),(.int .i64 s6.2)],[])
def yH (bG:List UInt8) (x1:Int):Int→Ex×Fast×WH:=λe=>((.exit 0),[(2,(.int .i64 e)),(5,(.int .i64 x1))],[])
abbrev QK (bG:List UInt8) (x1:Int):=eY [0,2,5,6] (uP bG x1) (yH bG x1)
def xH (bG:List UInt8) (x1:Int) (s6:Int×Int):Option ((Int×Int)⊕(Int)) :=
 cond (decide (s6.2≥0)) ((bW bG s6.2).bind λ(x7:UInt8)=>some (.inl ((orI .i64 (anD .i64 s6.1 7) (IntKind.i64.wrap ((L6 (Eo .u8 (x7.toNat:Int) 127)).toNat:Int))),(IntKind.i64.wrap (s6.2 - 1))))) (some (.inr s6.1))
def Nu (bG:List UInt8) (x1:Int) (s6:Int×Int):Option (Int):=eG (xH bG x1) KK s6
theorem TD (d:Nat) {bG:List UInt8} {x1:Int} {s6:Int×Int} {r:(Int×Int)⊕(Int)} (h:xH bG x1 s6=some r):bX (aU (aG aH (d+0)) KK 47 Xn) 0 (mQ [0,2,5,6] (uP bG x1 s6)) (QK bG x1 r):=by
 unfold xH at h
 exact bE nB abo h (.br 26 (λ_=>.bd λx7 q7=>Ix R_B 33 q7 <| .v 35 (.int .u8 ((L6 (Eo .u8 (x7.toNat:Int) 127)).toNat:Int)) <| .ob (ak2 rfl:@Eq (Option AV) (some (.int .u8 (Eo .u8 (x7.toNat:Int) 127))) (some (.int .u8 ((L6 (Eo .u8 (x7.toNat:Int) 127)).toNat:Int)))) <| E0 [0,2,5,6]) λ_=>E0 [2,5])
theorem TF (d:Nat) {bG:List UInt8} {x1:Int} {s6:Int×Int} {r:Int} (h:Nu bG x1 s6=some r):bX (gq (aU (aG aH (d+0)) KK 47 Xn) [0,2,5,6] KK) 0 (mQ [0,2,5,6] (uP bG x1 s6)) (yH bG x1 r) :=
 dL (st:=uP bG x1) (fin:=yH bG x1) (step:=xH bG x1) (λe=>by (intro h;cases h)) (λs x h=>TD d h) KK s6 r h
abbrev QL (x8:Int) (x1:Int):Fast×WH:=([(2,(.int .i64 x8)),(5,(.int .i64 x1))],[])
def OV (x8:Int) (x1:Int):Unit⊕Unit→Ex×Fast×WH:=fun
 | .inl e=>(.ret,[(2,(.int .i64 0)),(3,(.int .i64 0)),(4,(.int .i64 2))],[])
 | .inr e=>(.normal,[(2,(.int .i64 x8)),(5,(.int .i64 x1))],[])
def FY (x8:Int) (x1:Int):Option (Unit⊕Unit) :=
 cond (decide (x8 < 0)) (some (.inl ())) (cond (decide (x8 > 4611686018427387903)) (some (.inl ())) (some (.inr ())))
theorem Ji (d:Nat) {x8:Int} {x1:Int} {r:Unit⊕Unit} (h:FY x8 x1=some r):bX (aU (aG aH (d+0)) KK 47 MU) 0 (QL x8 x1) (OV x8 x1 r):=by
 unfold FY at h
 exact bE nB Qi h (.br 40 (λ_=>E0 [2,3,4]) λ_=>.br 43 (λ_=>E0 [2,3,4]) λ_=>E0 [2,5])
def EX (bG:List UInt8):Option (Int×Int×Int) :=
 (lq bG).bind λ(x1:Int)=>cond (decide (x1 < 0)) (some (0,0,3)) ((FX x1 bG).bind λ(x3:Unit⊕Unit)=>cond (mW x3) (some (0,0,2)) ((Nu bG x1 (0,x1)).bind λ(x8:Int)=>(FY x8 x1).bind λ(x9:Unit⊕Unit)=>cond (mW x9) (some (0,0,2)) (some (x8,(IntKind.i64.wrap (x1+1)),0))))
def KT (bG:List UInt8) (r:Int×Int×Int):AV×WH:=((.tuple [(.int .i64 r.1),(.int .i64 r.2.1),(.int .i64 r.2.2)]),[])
theorem Jj (d:Nat) {bG:List UInt8} {r:Int×Int×Int} (h:EX bG=some r):Spec (aG aH (d+3)) 139 [(Am bG)] [] (KT bG r).1 (KT bG r).2:=by
 unfold EX at h
 exact aW nB amZ h (.bd λx1 q1=>iF (zX (d+0) q1) <| .br 10 (λ_=>Fn Fo [] none) λ_=>.bd λx3 q3=>.ite (λhb4=>Jn [0,2,5] [none,none,none] [] [] (nA (il hb4) (Jh (d+2) q3)) <| Fn Fo [] none) λhb4=>Jn [0,2,5] [none,none,none] [] [] (nA (D_ hb4) (Jh (d+2) q3)) <| .bd λx8 q8=>Lp [none,none,none,none] [] [] (TF (d+2) q8) <| .bd λx9 q9=>.ite (λabB=>Jn [2,5] [none,none] [] [] (nA (il abB) (Ji (d+2) q9)) <| Fn Fo [] none) λabB=>Jn [2,5] [none,none] [] [] (nA (D_ abB) (Ji (d+2) q9)) <| Fn Fo [] none)
def Jk (bG:List UInt8):Option (List UInt8) :=
 gd (dB 1 bG.length) (some bG)
def Nv (bG:List UInt8) (r:List UInt8):AV×WH:=((Am r),[])
theorem LU (d:Nat) {bG:List UInt8} {r:List UInt8} (h:Jk bG=some r):Spec (aG aH (d+2)) 140 [(Am bG)] [] (Nv bG r).1 (Nv bG r).2:=by
 unfold Jk at h
 exact aW (Gj _) am0 h (.gd λq1=>.ob q1 <| Fn Fo [] none)
def sN (count:Int) (bG:List UInt8) (s7:Int×Int×List Int):List AV×WH:=([(Am bG),(.acc 0 0 1 s7.2.2.length true),(.int .i64 s7.1),(.int .i64 (if count > 0 then count else 0)),(.int .i64 s7.2.1)],[(some (.cells (yB s7.2.2) false true))])
def xI (count:Int) (bG:List UInt8):Int⊕(Int×List Int)→Ex×Fast×WH:=fun
 | .inl e=>(.ret,[(4,(.slice none 1 0 0 true)),(5,(.slice none 1 0 0 true)),(6,(.int .i64 e))],[])
 | .inr e=>((.exit 0),[(0,(Am bG)),(4,(.acc 0 0 1 e.2.length true)),(7,(.int .i64 e.1))],[(some (.cells (yB e.2) false true))])
abbrev OW (count:Int) (bG:List UInt8):=eY [0,4,7,12,13] (sN count bG) (xI count bG)
def uQ (count:Int) (bG:List UInt8) (s7:Int×Int×List Int):Option ((Int×Int×List Int)⊕(Int⊕(Int×List Int))) :=
 cond (decide (s7.2.1 < (if count > 0 then count else 0))) ((Ku bG s7.1 bG.length).bind λ(x8:List UInt8)=>(EX x8).bind λ(x9:Int×Int×Int)=>cond (x9.2.2 != 0) (some (.inr (.inl x9.2.2))) (gd (dB 8 (s7.2.2++[x9.1]).length) (some (.inl ((IntKind.i64.wrap (s7.1+x9.2.1)),(IntKind.i64.wrap (s7.2.1+1)),(s7.2.2++[x9.1])))))) (some (.inr (.inr (s7.1,s7.2.2))))
def KU (count:Int) (bG:List UInt8) (s7:Int×Int×List Int):Option (Int⊕(Int×List Int)):=eG (uQ count bG) KK s7
theorem QM (d:Nat) {count:Int} {bG:List UInt8} {s7:Int×Int×List Int} {r:(Int×Int×List Int)⊕(Int⊕(Int×List Int))} (h:uQ count bG s7=some r):bX (aU (aG aH (d+3)) KK 40 Xi) 0 (mQ [0,4,7,12,13] (sN count bG s7)) (OW count bG r):=by
 unfold uQ at h
 exact bE nB abj h (.br 14 (λ_=>.bd λx8 q8=>Sl R_B 18 q8 <| .bd λx9 q9=>iF (Jj (d+0) q9) <| .br 24 (λ_=>E0 [4,5,6]) λ_=>.gd λPz=>Ap Fe 29 Pz <| E0 [0,4,7,12,13]) λ_=>E0 [0,4,7])
theorem GD (d:Nat) {count:Int} {bG:List UInt8} {s7:Int×Int×List Int} {r:Int⊕(Int×List Int)} (h:KU count bG s7=some r):bX (gq (aU (aG aH (d+3)) KK 40 Xi) [0,4,7,12,13] KK) 0 (mQ [0,4,7,12,13] (sN count bG s7)) (xI count bG r) :=
 dL (st:=sN count bG) (fin:=xI count bG) (step:=uQ count bG) (λe=>by rcases e with e | e<;>(intro h;cases h)) (λs x h=>QM d h) KK s7 r h
def BO (bG:List UInt8) (count:Int):Option (List Int×List UInt8×Int) :=
 (KU count bG (0,0,[])).bind λ(dN:Int⊕(Int×List Int))=>cond (mW dN) (some ([],[],(Bg dN))) ((Ku bG (WV dN).1 bG.length).bind λ(rG:List UInt8)=>(Jk rG).bind λ(kR:List UInt8)=>some ((WV dN).2,kR,0))
def Jl (bG:List UInt8) (count:Int) (r:List Int×List UInt8×Int):AV×WH:=((.tuple [(K_ r.1),(Am r.2.1),(.int .i64 r.2.2)]),[])
theorem FZ (d:Nat) {bG:List UInt8} {count:Int} {r:List Int×List UInt8×Int} (h:BO bG count=some r):Spec (aG aH (d+4)) 122 [(Am bG),(.int .i64 count)] [] (Jl bG count r).1 (Jl bG count r).2:=by
 unfold BO at h
 exact aW (Gj _) amO h (.bd λdN KE=>.ite (λSX=>Lp [none,Tw,none,none,none] [] [] (nA (il SX) (GD (d+0) KE)) <| Fn Fo [] none) λSX=>Lp [none,Tw,none,none,none] [] [] (nA (D_ SX) (GD (d+0) KE)) <| .bd λrG Uv=>Sl R_B 38 Uv <| .bd λkR NJ=>Cl [] Fo [] (LU (d+1) NJ) <| Fn Fo [] none)
def gX (count:Int) (p_r:aC):Option (List Int×aC) :=
 gd (aeX 8 count) (cond (p_r.e==0) ((BO p_r.b count).bind λ(x2:List Int×List UInt8×Int)=>cond (x2.2.2==0) (some (x2.1,(⟨x2.2.1,x2.2.2⟩:aC))) (some ((List.replicate count.toNat (0:Int)),(⟨x2.2.1,x2.2.2⟩:aC)))) (some ((List.replicate count.toNat (0:Int)),p_r)))
def dS (count:Int) (p_r:aC) (r:List Int×aC):AV×WH:=((K_ r.1),[(some (.cells (eu r.2) false false))])
theorem mM (d:Nat) {count:Int} {p_r:aC} {r:List Int×aC} (h:gX count p_r=some r):Spec (aG aH (d+5)) 98 [(.ptr (some (0,0))),(.int .i64 count)] [(some (.cells (eu p_r) false false))] (dS count p_r r).1 (dS count p_r r).2:=by
 unfold gX at h
 exact aW nB aoy h (.gd λq1=>.ap 8 count.toNat (yB (List.replicate count.toNat (0:Int))) <| .ob (aeY (n:=count) q1:wMk (.int .i64 count) (.int .i64 count) count.toNat 8) <| .ob (YB (x:=(0:Int)) Fe rfl _:jf count.toNat [(.int .i64 0)]=yB (List.replicate count.toNat (0:Int))) <| .br 13 (λ_=>.bd λx2 q2=>Cl [] Fo [] (FZ (d+0) q2) <| .st none <| .st none <| .br 34 (λ_=>Fn Fo [] none) λ_=>.y8 (.fin (some false) [] none) _ (λr=>@Eq AV (.list 1 count.toNat (yB (List.replicate count.toNat (0:Int))) false) (dS count p_r r).1∧@Eq WH [(some (.cells (eu (⟨x2.2.1,x2.2.2⟩:aC)) false false))] (dS count p_r r).2) (by show _∧_;refine ⟨?_, ?_⟩<;>first | rfl | (simp only [dS,List.length_set,List.length_append,List.length_replicate,List.length_cons,List.length_nil,List.length_take,List.length_drop,Nat.add_zero,Nat.zero_add];done) | simp [dS,K_])) λ_=>.y8 (.fin (some false) [] none) _ (λr=>@Eq AV (.list 1 count.toNat (yB (List.replicate count.toNat (0:Int))) false) (dS count p_r r).1∧@Eq WH [(some (.cells (eu p_r) false false))] (dS count p_r r).2) (by show _∧_;refine ⟨?_, ?_⟩<;>first | rfl | (simp only [dS,List.length_set,List.length_append,List.length_replicate,List.length_cons,List.length_nil,List.length_take,List.length_drop,Nat.add_zero,Nat.zero_add];done) | simp [dS,K_]))
def fZ (most:Int) (p_r:aC):Option (Int×aC) :=
 (gX 1 p_r).bind λ(x1:List Int×aC)=>(bW x1.1 0).bind λ(x2:Int)=>cond (decide (x2 > most)) (some (0,(⟨x1.2.b,2⟩:aC))) (some (x2,x1.2))
def Ai (most:Int) (p_r:aC) (r:Int×aC):AV×WH:=((.int .i64 r.1),[(some (.cells (eu r.2) false false))])
theorem qz (d:Nat) {most:Int} {p_r:aC} {r:Int×aC} (h:fZ most p_r=some r):Spec (aG aH (d+6)) 99 [(.ptr (some (0,0))),(.int .i64 most)] [(some (.cells (eu p_r) false false))] (Ai most p_r r).1 (Ai most p_r r).2:=by
 unfold fZ at h
 exact aW nB aoz h (.bd λx1 q1=>Cl [] Fo [] (mM (d+0) q1) <| .bd λx2 q2=>Ix Fe 8 q2 <| .br 12 (λ_=>.st none <| Fn Fo [] none) λ_=>Fn Fo [] none)
def yV (bG:List UInt8):Option (List UInt8×List UInt8×Int) :=
 (EX bG).bind λ(x1:Int×Int×Int)=>cond (x1.2.2 != 0) (some (([]:List UInt8),[],x1.2.2)) (cond (decide (x1.1 > (IntKind.i64.wrap ((bG.length:Int) - x1.2.1)))) (some (([]:List UInt8),[],3)) ((Ku bG (IntKind.i64.wrap (x1.2.1+x1.1)) bG.length).bind λ(x2:List UInt8)=>(Jk x2).bind λ(x3:List UInt8)=>(Ku bG x1.2.1 (IntKind.i64.wrap (x1.2.1+x1.1))).bind λ(x4:List UInt8)=>some (x4,x3,0)))
def Dg (bG:List UInt8) (r:List UInt8×List UInt8×Int):AV×WH:=((.tuple [(.str r.1),(Am r.2.1),(.int .i64 r.2.2)]),[])
theorem GH (d:Nat) {bG:List UInt8} {r:List UInt8×List UInt8×Int} (h:yV bG=some r):Spec (aG aH (d+4)) 125 [(Am bG)] [] (Dg bG r).1 (Dg bG r).2:=by
 unfold yV at h
 exact aW nB amR h (.bd λx1 q1=>iF (Jj (d+0) q1) <| .br 13 (λ_=>Fn Fo [] none) λ_=>.br 17 (λ_=>Fn Fo [] none) λ_=>.bd λx2 q2=>Sl R_B 35 q2 <| .bd λx3 q3=>Cl [] Fo [] (LU (d+1) q3) <| .bd λx4 q4=>Sb R_B 29 q4 <| .v 30 (.str x4) <| .ob (by rw [show Rc x4=(x4).map CQ from rfl,CS];rfl:(jh (Rc x4)).map AV.str=some (.str x4)) <| Fn Fo [] none)
def qA (count:Int) (s5:List UInt8×Int×List (List UInt8)):List AV×WH:=([(Am s5.1),(.acc 0 0 1 s5.2.2.length true),(.int .i64 count),(.int .i64 s5.2.1)],[(some (.cells (F_S s5.2.2) false true))])
def vk (count:Int):Int⊕(List UInt8×List (List UInt8))→Ex×Fast×WH:=fun
 | .inl e=>(.ret,[(4,(.slice none 1 0 0 true)),(5,(.slice none 1 0 0 true)),(6,(.int .i64 e))],[])
 | .inr e=>((.exit 0),[(0,(Am e.1)),(4,(.acc 0 0 1 e.2.length true))],[(some (.cells (F_S e.2) false true))])
abbrev Nw (count:Int):=eY [0,4,8,9] (qA count) (vk count)
def sO (count:Int) (s5:List UInt8×Int×List (List UInt8)):Option ((List UInt8×Int×List (List UInt8))⊕(Int⊕(List UInt8×List (List UInt8)))) :=
 cond (decide (s5.2.1 < count)) ((yV s5.1).bind λ(x6:List UInt8×List UInt8×Int)=>cond (x6.2.2 != 0) (some (.inr (.inl x6.2.2))) (gd (dB 16 (s5.2.2++[x6.1]).length) (some (.inl (x6.2.1,(IntKind.i64.wrap (s5.2.1+1)),(s5.2.2++[x6.1])))))) (some (.inr (.inr (s5.1,s5.2.2))))
def Jm (count:Int) (s5:List UInt8×Int×List (List UInt8)):Option (Int⊕(List UInt8×List (List UInt8))):=eG (sO count) KK s5
theorem OX (d:Nat) {count:Int} {s5:List UInt8×Int×List (List UInt8)} {r:(List UInt8×Int×List (List UInt8))⊕(Int⊕(List UInt8×List (List UInt8)))} (h:sO count s5=some r):bX (aU (aG aH (d+4)) KK 27 Xj) 0 (mQ [0,4,8,9] (qA count s5)) (Nw count r):=by
 unfold sO at h
 exact bE nB abk h (.br 10 (λ_=>.bd λx6 q6=>Cl [] Fo [] (GH (d+0) q6) <| .br 18 (λ_=>E0 [4,5,6]) λ_=>.gd λq7=>Ap R_S 23 q7 <| E0 [0,4,8,9]) λ_=>E0 [0,4])
theorem EY (d:Nat) {count:Int} {s5:List UInt8×Int×List (List UInt8)} {r:Int⊕(List UInt8×List (List UInt8))} (h:Jm count s5=some r):bX (gq (aU (aG aH (d+4)) KK 27 Xj) [0,4,8,9] KK) 0 (mQ [0,4,8,9] (qA count s5)) (vk count r) :=
 dL (st:=qA count) (fin:=vk count) (step:=sO count) (λe=>by rcases e with e | e<;>(intro h;cases h)) (λs x h=>OX d h) KK s5 r h
def Dh (bG:List UInt8) (count:Int):Option (List (List UInt8)×List UInt8×Int) :=
 (Jm count (bG,0,[])).bind λ(x8:Int⊕(List UInt8×List (List UInt8)))=>cond (mW x8) (some ([],[],(Bg x8))) (some ((WV x8).2,(WV x8).1,0))
def GI (bG:List UInt8) (count:Int) (r:List (List UInt8)×List UInt8×Int):AV×WH:=((.tuple [(l_S r.1),(Am r.2.1),(.int .i64 r.2.2)]),[])
theorem KV (d:Nat) {bG:List UInt8} {count:Int} {r:List (List UInt8)×List UInt8×Int} (h:Dh bG count=some r):Spec (aG aH (d+5)) 123 [(Am bG),(.int .i64 count)] [] (GI bG count r).1 (GI bG count r).2:=by
 unfold Dh at h
 exact aW nB amP h (.bd λx8 q8=>.ite (λhb9=>Lp [none,Tw,none,none] [] [] (nA (il hb9) (EY (d+0) q8)) <| Fn Fo [] none) λhb9=>Lp [none,Tw,none,none] [] [] (nA (D_ hb9) (EY (d+0) q8)) <| Fn Fo [] none)
end Go.Proofs.YtohoggieaanllaaGreat
