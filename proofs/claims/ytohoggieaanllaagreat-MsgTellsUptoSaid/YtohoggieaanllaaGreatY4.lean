import Derived.Test.YtohoggieaanllaaGreatXt
import Derived.Test.YtohoggieaanllaaGreatXs
import Derived.Test.YtohoggieaanllaaGreatY3
set_option linter.all false
set_option maxRecDepth 100000
namespace Go.Proofs.YtohoggieaanllaaGreat
def vV (n:Int):Option (Bool) :=
 cond (decide (n≥0)) (some (decide (n≤4611686018427387903))) (some false)
def OY (n:Int) (r:Bool):AV×WH:=((.bool r),[])
theorem Fq (d:Nat) {n:Int} {r:Bool} (h:vV n=some r):Spec (aF aH (d+1)) 44 [(.int .i64 n)] [] (OY n r).1 (OY n r).2:=by
 unfold vV at h
 exact aZ nB ayJ h (.br 5 (λ_=>Fn Fo [] none) λ_=>Fn Fo [] none)
def IZ (n:Int):Option (Bool) :=
 (vV n).bind λ(x1:Bool)=>some (!x1)
def MV (n:Int) (r:Bool):AV×WH:=((.bool r),[])
theorem acn (d:Nat) {n:Int} {r:Bool} (h:IZ n=some r):Spec (aF aH (d+2)) 43 [(.int .i64 n)] [] (MV n r).1 (MV n r).2:=by
 unfold IZ at h
 exact aZ nB ayI h (.bd λx1 q1=>iN (Fq (d+0) q1) <| Fn Fo [] none)
def iV (a0:List Int) (s3:Int):List AV×WH:=([(J9 a0),(.func 43 []),(.int .i64 (a0.length:Int)),(.int .i64 s3)],[])
def kP (a0:List Int):Int⊕Unit→Ex×Fast×WH:=fun
 | .inl e=>(.ret,[(4,(.int .i64 e))],[])
 | .inr e=>((.exit 0),[],[])
abbrev CO (a0:List Int):=dF [0,1,7,8] (iV a0) (kP a0)
def fD (a0:List Int) (s3:Int):Option ((Int)⊕(Int⊕Unit)) :=
 cond (decide (s3 < (a0.length:Int))) ((bV a0 s3).bind λ(x4:Int)=>(IZ x4).bind λ(x5:Bool)=>cond x5 (some (.inr (.inl s3))) (some (.inl (IntKind.i64.wrap (s3+1))))) (some (.inr (.inr ())))
def nH (a0:List Int) (s3:Int):Option (Int⊕Unit):=bQ (fD a0) KK s3
theorem D6 (d:Nat) {a0:List Int} {s3:Int} {r:(Int)⊕(Int⊕Unit)} (h:fD a0 s3=some r):bN (aV (aF aH (d+2)) KK 19 ajc) 0 (jJ [0,1,7,8] (iV a0 s3)) (CO a0 r):=by
 unfold fD at h
 exact bC nB alT h (.br 9 (λ_=>.bd λx4 q4=>Ix IB 14 q4 <| .bd λx5 q5=>iN (acn (d+0) q5) <| .br 16 (λ_=>E0 [4]) λ_=>E0 [0,1,7,8]) λ_=>E0 [])
theorem sK (d:Nat) {a0:List Int} {s3:Int} {r:Int⊕Unit} (h:nH a0 s3=some r):bN (eY (aV (aF aH (d+2)) KK 19 ajc) [0,1,7,8] KK) 0 (jJ [0,1,7,8] (iV a0 s3)) (kP a0 r) :=
 cO (st:=iV a0) (fin:=kP a0) (step:=fD a0) (λe=>by rcases e with e | e<;>(intro h;cases h)) (λs x h=>D6 d h) KK s3 r h
def lU (a0:List Int):Option (Int) :=
 (nH a0 0).bind λ(x6:Int⊕Unit)=>cond (jO x6) (some (zA x6)) (some (-1))
def um (a0:List Int) (r:Int):AV×WH:=((.int .i64 r),[])
theorem GA (d:Nat) {a0:List Int} {r:Int} (h:lU a0=some r):Spec (aF aH (d+3)) 86 [(J9 a0),(.func 43 [])] [] (um a0 r).1 (um a0 r).2:=by
 unfold lU at h
 exact aZ nB azj h (.bd λx6 q6=>.ite (λEu=>Lp [none,none,none,none] [] [] (j6 (il Eu) (sK (d+0) q6)) <| Fn Fo [] none) λEu=>Lp [none,none,none,none] [] [] (j6 (Ai Eu) (sK (d+0) q6)) <| Fn Fo [] none)
def gT (a0:List Int):Option (Bool) :=
 (lU a0).bind λ(x1:Int)=>some (decide (x1≥0))
def ru (a0:List Int) (r:Bool):AV×WH:=((.bool r),[])
theorem sM (d:Nat) {a0:List Int} {r:Bool} (h:gT a0=some r):Spec (aF aH (d+4)) 45 [(J9 a0),(.func 43 [])] [] (ru a0 r).1 (ru a0 r).2:=by
 unfold gT at h
 exact aZ nB ayK h (.bd λx1 q1=>iN (GA (d+0) q1) <| Fn Fo [] none)
def KO (aQ:aA):Option (Bool) :=
 (vV aQ.Inc).bind λ(x1:Bool)=>cond (!x1) (some true) (cond (decide (aQ.Status < 0)) (some true) (cond (decide (aQ.Status > 2)) (some true) ((vV aQ.qZ).bind λ(x2:Bool)=>cond (!x2) (some true) ((vV aQ.Load).bind λ(x3:Bool)=>some (!x3)))))
def Rp (aQ:aA) (r:Bool):AV×WH:=((.bool r),[])
theorem ahD (d:Nat) {aQ:aA} {r:Bool} (h:KO aQ=some r):Spec (aF aH (d+2)) 48 [(.agg (zV aQ))] [] (Rp aQ r).1 (Rp aQ r).2:=by
 unfold KO at h
 exact aZ nB ayN h (.bd λx1 q1=>iN (Fq (d+0) q1) <| .br 7 (λ_=>Fn Fo [] none) λ_=>.br 12 (λ_=>Fn Fo [] none) λ_=>.br 17 (λ_=>Fn Fo [] none) λ_=>.bd λx2 q2=>iN (Fq (d+0) q2) <| .br 23 (λ_=>Fn Fo [] none) λ_=>.bd λx3 q3=>iN (Fq (d+0) q3) <| Fn Fo [] none)
def fM (a0:List aA) (s3:Int):List AV×WH:=([(eP a0),(.func 48 []),(.int .i64 (a0.length:Int)),(.int .i64 s3)],[])
def h_ (a0:List aA):Int⊕Unit→Ex×Fast×WH:=fun
 | .inl e=>(.ret,[(4,(.int .i64 e))],[])
 | .inr e=>((.exit 0),[],[])
abbrev tJ (a0:List aA):=dF [0,1,7,8] (fM a0) (h_ a0)
def dB (a0:List aA) (s3:Int):Option ((Int)⊕(Int⊕Unit)) :=
 cond (decide (s3 < (a0.length:Int))) ((bV a0 s3).bind λ(x4:aA)=>(KO x4).bind λ(x5:Bool)=>cond x5 (some (.inr (.inl s3))) (some (.inl (IntKind.i64.wrap (s3+1))))) (some (.inr (.inr ())))
def iK (a0:List aA) (s3:Int):Option (Int⊕Unit):=bQ (dB a0) KK s3
theorem uo (d:Nat) {a0:List aA} {s3:Int} {r:(Int)⊕(Int⊕Unit)} (h:dB a0 s3=some r):bN (aV (aF aH (d+2)) KK 19 ajd) 0 (jJ [0,1,7,8] (fM a0 s3)) (tJ a0 r):=by
 unfold dB at h
 exact bC nB alV h (.br 9 (λ_=>.bd λx4 q4=>Ix kK 14 q4 <| .bd λx5 q5=>iN (ahD (d+0) q5) <| .br 16 (λ_=>E0 [4]) λ_=>E1 [0,1,7,8] [none,none,none,none] [] [.slice none 5 0 0 true,.undef,.undef,.undef]) λ_=>E0 [])
theorem kL (d:Nat) {a0:List aA} {s3:Int} {r:Int⊕Unit} (h:iK a0 s3=some r):bN (eY (aV (aF aH (d+2)) KK 19 ajd) [0,1,7,8] KK) 0 (jJ [0,1,7,8] (fM a0 s3)) (h_ a0 r) :=
 cO (st:=fM a0) (fin:=h_ a0) (step:=dB a0) (λe=>by rcases e with e | e<;>(intro h;cases h)) (λs x h=>uo d h) KK s3 r h
def gY (a0:List aA):Option (Int) :=
 (iK a0 0).bind λ(x6:Int⊕Unit)=>cond (jO x6) (some (zA x6)) (some (-1))
def kW (a0:List aA) (r:Int):AV×WH:=((.int .i64 r),[])
theorem vW (d:Nat) {a0:List aA} {r:Int} (h:gY a0=some r):Spec (aF aH (d+3)) 87 [(eP a0),(.func 48 [])] [] (kW a0 r).1 (kW a0 r).2:=by
 unfold gY at h
 exact aZ nB azk h (.bd λx6 q6=>.ite (λEu=>Lp [none,none,none,none] [] [.slice none 5 0 0 true,.undef,.undef,.undef] (j6 (il Eu) (kL (d+0) q6)) <| Fn Fo [] none) λEu=>Lp [none,none,none,none] [] [.slice none 5 0 0 true,.undef,.undef,.undef] (j6 (Ai Eu) (kL (d+0) q6)) <| Fn Fo [] none)
def eZ (a0:List aA):Option (Bool) :=
 (gY a0).bind λ(x1:Int)=>some (decide (x1≥0))
def j5 (a0:List aA) (r:Bool):AV×WH:=((.bool r),[])
theorem uq (d:Nat) {a0:List aA} {r:Bool} (h:eZ a0=some r):Spec (aF aH (d+4)) 47 [(eP a0),(.func 48 [])] [] (j5 a0 r).1 (j5 a0 r).2:=by
 unfold eZ at h
 exact aZ nB ayM h (.bd λx1 q1=>Cb [.slice none 5 0 0 true] (vW (d+0) q1) <| Fn Fo [] none)
abbrev UF (o:bE):Fast×WH:=([(1,(.ptr (some (0,0))))],[(some (.cells (gF o) false false))])
def Sr (o:bE):Bool→Ex×Fast×WH:=λe=>(.normal,[(1,(.ptr (some (0,0)))),(3,(.bool e))],[(some (.cells (gF o) false false))])
def Bj (o:bE):Option (Bool) :=
 cond (o.Kind==2) (some true) (some (o.Kind==4))
theorem Wy (d:Nat) {o:bE} {r:Bool} (h:Bj o=some r):bN (aV (aF aH (d+0)) KK 53 akH) 0 (UF o) (Sr o r):=by
 unfold Bj at h
 exact bC nB aje h (.br 7 (λ_=>E0 [1,3]) λ_=>E0 [1,3])
abbrev UG (o:bE) (x1:Bool):Fast×WH:=([(1,(.ptr (some (0,0)))),(3,(.bool x1))],[(some (.cells (gF o) false false))])
def Sv (o:bE) (x1:Bool):Bool→Ex×Fast×WH:=λe=>(.normal,[(1,(.ptr (some (0,0)))),(3,(.bool x1)),(12,(.bool e))],[(some (.cells (gF o) false false))])
def Bl (o:bE) (x1:Bool):Option (Bool) :=
 cond (decide (o.Kind < 1)) (some true) (some (decide (o.Kind > 4)))
theorem Wz (d:Nat) {o:bE} {x1:Bool} {r:Bool} (h:Bl o x1=some r):bN (aV (aF aH (d+0)) KK 53 XC) 0 (UG o x1) (Sv o x1 r):=by
 unfold Bl at h
 exact bC nB aaj h (.br 16 (λ_=>E0 [1,3,12]) λ_=>E0 [1,3,12])
abbrev UH (o:bE) (x1:Bool):Fast×WH:=([(1,(.ptr (some (0,0)))),(3,(.bool x1))],[(some (.cells (gF o) false false))])
def Sw (o:bE) (x1:Bool):Bool→Ex×Fast×WH:=λe=>(.normal,[(1,(.ptr (some (0,0)))),(3,(.bool x1)),(12,(.bool e))],[(some (.cells (gF o) false false))])
def Bn (o:bE) (x1:Bool):Option (Bool) :=
 (Bl o x1).bind λ(x2:Bool)=>cond x2 (some true) (cond (o.Key==([]:List UInt8)) (some true) (some (decide ((o.Key.length:Int) > 8))))
theorem WA (d:Nat) {o:bE} {x1:Bool} {r:Bool} (h:Bn o x1=some r):bN (aV (aF aH (d+0)) KK 53 aai) 0 (UH o x1) (Sw o x1 r):=by
 unfold Bn at h
 exact bC nB abV h (.bd λx2 q2=>Jn [1,3] [none,none] [] [] (Wz (d+0) q2) <| .br 12 (λ_=>E0 [1,3,12]) λ_=>.br 12 (λ_=>E0 [1,3,12]) λ_=>E0 [1,3,12])
abbrev UJ (o:bE) (x1:Bool):Fast×WH:=([(1,(.ptr (some (0,0)))),(3,(.bool x1))],[(some (.cells (gF o) false false))])
def Sy (o:bE) (x1:Bool):Unit⊕Unit→Ex×Fast×WH:=fun
 | .inl e=>(.ret,[(2,(.bool false))],[])
 | .inr e=>(.normal,[(1,(.ptr (some (0,0)))),(3,(.bool x1))],[(some (.cells (gF o) false false))])
def Bo (o:bE) (x1:Bool):Option (Unit⊕Unit) :=
 (Bn o x1).bind λ(x3:Bool)=>cond x3 (some (.inl ())) (cond (decide ((o.Value.length:Int) > 16)) (some (.inl ())) (cond (decide ((o.Old.length:Int) > 16)) (some (.inl ())) (some (.inr ()))))
theorem KP (d:Nat) {o:bE} {x1:Bool} {r:Unit⊕Unit} (h:Bo o x1=some r):bN (aV (aF aH (d+0)) KK 53 agH) 0 (UJ o x1) (Sy o x1 r):=by
 unfold Bo at h
 exact bC nB agI h (.bd λx3 q3=>Jn [1,3] [none,none] [] [] (WA (d+0) q3) <| .br 12 (λ_=>E0 [2]) λ_=>.br 28 (λ_=>E0 [2]) λ_=>.br 28 (λ_=>E0 [2]) λ_=>E0 [1,3])
def Ab (o:bE):Option (Bool) :=
 (Bj o).bind λ(x1:Bool)=>(Bo o x1).bind λ(x4:Unit⊕Unit)=>cond (jO x4) (some false) (cond x1 (cond (o.Kind==4) (some true) (some (o.Old==([]:List UInt8)))) (cond (o.Value==([]:List UInt8)) (cond (o.Kind==4) (some true) (some (o.Old==([]:List UInt8)))) (some false)))
def MW (o:bE) (r:Bool):AV×WH:=((.bool r),[])
theorem Rq (d:Nat) {o:bE} {r:Bool} (h:Ab o=some r):Spec (aF aH (d+1)) 88 [(.agg (gF o))] [] (MW o r).1 (MW o r).2:=by
 unfold Ab at h
 exact aZ nB azl h (.sk <| .bd λx1 q1=>Jn [1] [none] [] [] (Wy (d+0) q1) <| .bd λx4 q4=>.ite (λhb5=>Jn [1,3] [none,none] [] [] (j6 (il hb5) (KP (d+0) q4)) <| Fn Fo [] none) λhb5=>Jn [1,3] [none,none] [] [] (j6 (Ai hb5) (KP (d+0) q4)) <| .br 38 (λ_=>.br 47 (λ_=>Fn Fo [] none) λ_=>Fn Fo [] none) λ_=>.br 43 (λ_=>.br 47 (λ_=>Fn Fo [] none) λ_=>Fn Fo [] none) λ_=>Fn Fo [] none)
def oo (p_r:aU):Option (Bool) :=
 cond (p_r.Client==0&&(p_r.Seq==0&&(p_r.Op.Kind==0&&(p_r.Op.Key==([]:List UInt8)&&(p_r.Op.Value==([]:List UInt8)&&(p_r.Op.Old==([]:List UInt8)&&true)))))) (some true) (cond (decide (p_r.Client≥0)) (cond (decide (p_r.Client < 4)) (cond (decide (p_r.Seq≥1)) (cond (decide (p_r.Seq≤4611686018427387903)) ((Ab p_r.Op).bind λ(x1:Bool)=>some x1) (some false)) (some false)) (some false)) (some false))
def GD (p_r:aU) (r:Bool):AV×WH:=((.bool r),[])
theorem CP (d:Nat) {p_r:aU} {r:Bool} (h:oo p_r=some r):Spec (aF aH (d+2)) 49 [(.agg (uE p_r))] [] (GD p_r r).1 (GD p_r r).2:=by
 unfold oo at h
 exact aZ nB ayO h (.br 5 (λ_=>Fn Fo [] none) λ_=>.br 9 (λ_=>.br 14 (λ_=>.br 19 (λ_=>.br 24 (λ_=>.bd λx1 q1=>iN (Rq (d+0) q1) <| Fn Fo [] none) λ_=>Fn Fo [] none) λ_=>Fn Fo [] none) λ_=>Fn Fo [] none) λ_=>Fn Fo [] none)
def ku (a:aB):Option (Bool) :=
 cond (decide (a.Why≥0)) (cond (decide (a.Why≤11)) (some (decide ((a.Value.length:Int)≤16))) (some false)) (some false)
def Ck (a:aB) (r:Bool):AV×WH:=((.bool r),[])
theorem yj (d:Nat) {a:aB} {r:Bool} (h:ku a=some r):Spec (aF aH (d+1)) 50 [(.agg (dZ a))] [] (Ck a r).1 (Ck a r).2:=by
 unfold ku at h
 exact aZ nB ayP h (.br 6 (λ_=>.br 11 (λ_=>Fn Fo [] none) λ_=>Fn Fo [] none) λ_=>Fn Fo [] none)
def GH (aQ:aC):Option (Bool) :=
 cond (aQ.dR==0) (cond (aQ.Epoch==0) (cond ((aQ.Pairs.length:Int)==0) (some ((aQ.dN.length:Int)==0)) (some false)) (some false)) (some false)
def OZ (aQ:aC) (r:Bool):AV×WH:=((.bool r),[])
theorem aff (d:Nat) {aQ:aC} {r:Bool} (h:GH aQ=some r):Spec (aF aH (d+1)) 89 [(.agg (bK aQ))] [] (OZ aQ r).1 (OZ aQ r).2:=by
 unfold GH at h
 exact aZ nB azm h (.br 6 (λ_=>.br 11 (λ_=>.br 17 (λ_=>Fn Fo [] none) λ_=>Fn Fo [] none) λ_=>Fn Fo [] none) λ_=>Fn Fo [] none)
def cmp_isNaN_string (a0:List UInt8):Option (Bool) :=
 some (!(a0==a0))
def D7 (a0:List UInt8) (r:Bool):AV×WH:=((.bool r),[])
theorem GI (d:Nat) {a0:List UInt8} {r:Bool} (h:cmp_isNaN_string a0=some r):Spec (aF aH (d+1)) 154 [(.str a0)] [] (D7 a0 r).1 (D7 a0 r).2:=by
 unfold cmp_isNaN_string at h
 exact aZ nB axM h (Fn Fo [] none)
def tK (a0:List UInt8) (a1:List UInt8):Option (Int) :=
 (cmp_isNaN_string a0).bind λ(x1:Bool)=>(cmp_isNaN_string a1).bind λ(x2:Bool)=>cond x1 (cond x2 (some 0) (some (-1))) (cond x2 (some 1) (cond (Op.bytesLess a0 a1) (some (-1)) (cond (!(Op.bytesLess a0 a1 || a0==a1)) (some 1) (some 0))))
def Bp (a0:List UInt8) (a1:List UInt8) (r:Int):AV×WH:=((.int .i64 r),[])
theorem O4 (d:Nat) {a0:List UInt8} {a1:List UInt8} {r:Int} (h:tK a0 a1=some r):Spec (aF aH (d+2)) 151 [(.str a0),(.str a1)] [] (Bp a0 a1 r).1 (Bp a0 a1 r).2:=by
 unfold tK at h
 exact aZ nB axK h (.bd λx1 q1=>iN (GI (d+0) q1) <| .bd λx2 q2=>iN (GI (d+0) q2) <| .br 11 (λ_=>.br 12 (λ_=>Fn Fo [] none) λ_=>Fn Fo [] none) λ_=>.br 13 (λ_=>Fn Fo [] none) λ_=>.br 16 (λ_=>Fn Fo [] none) λ_=>.br 19 (λ_=>Fn Fo [] none) λ_=>Fn Fo [] none)
def lu (p:av) (key:List UInt8):Option (Int) :=
 (tK p.Key key).bind λ(x1:Int)=>some x1
def Bq (p:av) (key:List UInt8) (r:Int):AV×WH:=((.int .i64 r),[])
theorem D8 (d:Nat) {p:av} {key:List UInt8} {r:Int} (h:lu p key=some r):Spec (aF aH (d+3)) 150 [(.agg (sV p)),(.str key)] [] (Bq p key r).1 (Bq p key r).2:=by
 unfold lu at h
 exact aZ nB axJ h (.bd λx1 q1=>iN (O4 (d+0) q1) <| Fn Fo [] none)
def dW (a0:List av) (a1:List UInt8) (s3:Int×Int):List AV×WH:=([(bL a0),(.str a1),(.func 150 []),(.int .i64 (a0.length:Int)),(.int .i64 s3.1),(.int .i64 s3.2)],[])
def fF (a0:List av) (a1:List UInt8):Int→Ex×Fast×WH:=λe=>((.exit 0),[(0,(bL a0)),(1,(.str a1)),(2,(.func 150 [])),(8,(.int .i64 (a0.length:Int))),(9,(.int .i64 e))],[])
abbrev mO (a0:List av) (a1:List UInt8):=dF [0,1,2,8,9,10] (dW a0 a1) (fF a0 a1)
def dG (a0:List av) (a1:List UInt8) (s3:Int×Int):Option ((Int×Int)⊕(Int)) :=
 cond (decide (s3.1 < s3.2)) ((bV a0 (IntKind.i64.wrap (abL .u64 (IntKind.u64.wrap (IntKind.i64.wrap (s3.1+s3.2))) 1))).bind λ(x4:av)=>(lu x4 a1).bind λ(x5:Int)=>cond (decide (x5 < 0)) (some (.inl ((IntKind.i64.wrap ((IntKind.i64.wrap (abL .u64 (IntKind.u64.wrap (IntKind.i64.wrap (s3.1+s3.2))) 1))+1)),s3.2))) (some (.inl (s3.1,(IntKind.i64.wrap (abL .u64 (IntKind.u64.wrap (IntKind.i64.wrap (s3.1+s3.2))) 1)))))) (some (.inr s3.1))
def fU (a0:List av) (a1:List UInt8) (s3:Int×Int):Option (Int):=bQ (dG a0 a1) KK s3
theorem ni (d:Nat) {a0:List av} {a1:List UInt8} {s3:Int×Int} {r:(Int×Int)⊕(Int)} (h:dG a0 a1 s3=some r):bN (aV (aF aH (d+3)) KK 49 aeZ) 0 (jJ [0,1,2,8,9,10] (dW a0 a1 s3)) (mO a0 a1 r):=by
 unfold dG at h
 exact bC nB ajB h (.br 17 (λ_=>.bd λx4 q4=>Ix aO 27 q4 <| .bd λx5 q5=>iN (D8 (d+0) q5) <| .br 31 (λ_=>E1 [0,1,2,8,9,10] [none,none,none,none,none,none] [] [.slice none 2 0 0 true,.undef,.undef,.undef,.undef,.undef]) λ_=>E1 [0,1,2,8,9,10] [none,none,none,none,none,none] [] [.slice none 2 0 0 true,.undef,.undef,.undef,.undef,.undef]) λ_=>E1 [0,1,2,8,9] [none,none,none,none,none] [] [.slice none 2 0 0 true,.undef,.undef,.undef,.undef])
theorem nu (d:Nat) {a0:List av} {a1:List UInt8} {s3:Int×Int} {r:Int} (h:fU a0 a1 s3=some r):bN (eY (aV (aF aH (d+3)) KK 49 aeZ) [0,1,2,8,9,10] KK) 0 (jJ [0,1,2,8,9,10] (dW a0 a1 s3)) (fF a0 a1 r) :=
 cO (st:=dW a0 a1) (fin:=fF a0 a1) (step:=dG a0 a1) (λe=>by (intro h;cases h)) (λs x h=>ni d h) KK s3 r h
def dQ (a0:List av) (a1:List UInt8):Option (Int×Bool) :=
 (fU a0 a1 (0,(a0.length:Int))).bind λ(x6:Int)=>cond (decide (x6 < (a0.length:Int))) ((bV a0 x6).bind λ(x7:av)=>(lu x7 a1).bind λ(x8:Int)=>some (x6,(x8==0))) (some (x6,false))
def iG (a0:List av) (a1:List UInt8) (r:Int×Bool):AV×WH:=((.tuple [(.int .i64 r.1),(.bool r.2)]),[])
theorem oq (d:Nat) {a0:List av} {a1:List UInt8} {r:Int×Bool} (h:dQ a0 a1=some r):Spec (aF aH (d+4)) 149 [(bL a0),(.str a1),(.func 150 [])] [] (iG a0 a1 r).1 (iG a0 a1 r).2:=by
 unfold dQ at h
 exact aZ nB axI h (.bd λx6 q6=>Lp [none,none,none,none,none,none] [] [.slice none 2 0 0 true,.undef,.undef,.undef,.undef,.undef] (nu (d+0) q6) <| .br 39 (λ_=>.bd λx7 q7=>Ix aO 43 q7 <| .bd λx8 q8=>iN (D8 (d+0) q8) <| Fn Fo [] none) λ_=>Fn Fo [] none)
def mI (k:Int) (value:List UInt8) (aY:List av):Option (List av) :=
 gd (dx 32 aY.length) ((bV aY k).bind λ(x2:av)=>some (aY.set k.toNat (⟨x2.Key,value⟩:av)))
def jq (k:Int) (value:List UInt8) (aY:List av) (r:List av):AV×WH:=((.tuple []),[(some (.cells [(.acc 2 0 2 r.length true)] false false)),(some (.cells (aD aY) false true)),(some (.cells (aD r) false true))])
theorem ET (d:Nat) {k:Int} {value:List UInt8} {aY:List av} {r:List av} (h:mI k value aY=some r):Spec (aF aH (d+2)) 152 [(.ptr (some (0,0))),(.int .i64 k),(.str value)] [(some (.cells [(.acc 1 0 2 aY.length true)] false false)),(some (.cells (aD aY) false true))] (jq k value aY r).1 (jq k value aY r).2:=by
 unfold mI at h
 exact aZ (MK _) axL h (.gd λq1=>.ob q1 <| .st none <| .bd λx2 q2=>Ia aO 20 2 q2 <| .st (some (aD (aY.set k.toNat (⟨x2.Key,value⟩:av)))) <| .ob (F8 (o:=1) aO q2 rfl:Xv (aD aY) (0+k.toNat * 2+1) [(.str value)]=some (aD (aY.set k.toNat (⟨x2.Key,value⟩:av)))) <| .xQ (.fin (some false) [] none) _ (λr=>@Eq AV (.tuple []) (jq k value aY r).1∧@Eq WH [(some (.cells [(.acc 2 0 2 aY.length true)] false false)),(some (.cells (aD aY) false true)),(some (.cells (aD (aY.set k.toNat (⟨x2.Key,value⟩:av))) false true))] (jq k value aY r).2) (by show _∧_;(try rw [show AV.list 2 aY.length (aD (aY.set k.toNat (⟨x2.Key,value⟩:av))) false=bL (aY.set k.toNat (⟨x2.Key,value⟩:av)) from by simp only [bL,List.length_set]]);refine ⟨?_, ?_⟩<;>first | rfl | (simp only [jq,List.length_set,List.length_append,List.length_replicate,List.length_cons,List.length_nil,List.length_take,List.length_drop,Nat.add_zero,Nat.zero_add];done) | simp [jq]))
def u_ (o:bE) (k:Int) (aY:List av):Option (aB×List av) :=
 (bV aY k).bind λ(x1:av)=>cond (!(x1.Value==o.Old)) (some ((⟨6,x1.Value⟩:aB),aY)) ((mI k o.Value aY).bind λ(x2:List av)=>some ((⟨0,([]:List UInt8)⟩:aB),x2))
def Cm (o:bE) (k:Int) (aY:List av) (r:aB×List av):AV×WH:=((.agg (dZ r.1)),[(some (.cells [(.acc 2 0 2 r.2.length true)] false false)),none,(some (.cells (aD r.2) false true))])
theorem QF (d:Nat) {o:bE} {k:Int} {aY:List av} {r:aB×List av} (h:u_ o k aY=some r):Spec (aF aH (d+3)) 147 [(.ptr (some (0,0))),(.agg (gF o)),(.int .i64 k)] [(some (.cells [(.acc 1 0 2 aY.length true)] false false)),(some (.cells (aD aY) false true))] (Cm o k aY r).1 (Cm o k aY r).2:=by
 unfold u_ at h
 exact aZ nB axH h (.bd λx1 q1=>Ia aO 13 1 q1 <| Ld aO 15 false 1 1 q1 (.str x1.Value) rfl <| .br 19 (λ_=>.st none <| Fn Fo [] Tw) λ_=>.bd λx2 q2=>Cl0 (ET (d+0) q2) <| .st none <| .kl [1] <| Fn Fo [] Tw)
def tL (key:List UInt8) (aY:List av):Option (Int×Bool) :=
 (dQ aY key).bind λ(x1:Int×Bool)=>some (x1.1,x1.2)
def Br (key:List UInt8) (aY:List av) (r:Int×Bool):AV×WH:=((.tuple [(.int .i64 r.1),(.bool r.2)]),[(some (.cells [(.acc 1 0 2 aY.length true)] false false)),(some (.cells (aD aY) false true))])
theorem O5 (d:Nat) {key:List UInt8} {aY:List av} {r:Int×Bool} (h:tL key aY=some r):Spec (aF aH (d+5)) 145 [(.ptr (some (0,0))),(.str key)] [(some (.cells [(.acc 1 0 2 aY.length true)] false false)),(some (.cells (aD aY) false true))] (Br key aY r).1 (Br key aY r).2:=by
 unfold tL at h
 exact aZ nB axF h (.bd λx1 q1=>Cb [.slice none 2 0 0 true] (oq (d+0) q1) <| Fn Fo [] none)
def vg (o:bE) (k:Int) (had:Bool) (aY:List av):Option (aB×List av) :=
 cond had ((mI k o.Value aY).bind λ(x1:List av)=>some ((⟨0,([]:List UInt8)⟩:aB),x1)) (cond ((aY.length:Int)==8) (some ((⟨5,([]:List UInt8)⟩:aB),aY)) (gd (dx 32 aY.length) (gd (aiA 32 k aY.length) (some ((⟨0,([]:List UInt8)⟩:aB),(Nl aY k (⟨o.Key,o.Value⟩:av)))))))
def Cn (o:bE) (k:Int) (had:Bool) (aY:List av) (r:aB×List av):AV×WH:=((.agg (dZ r.1)),[(some (.cells [(.acc 2 0 2 r.2.length true)] false false)),none,(some (.cells (aD r.2) false true))])
theorem QG (d:Nat) {o:bE} {k:Int} {had:Bool} {aY:List av} {r:aB×List av} (h:vg o k had aY=some r):Spec (aF aH (d+3)) 146 [(.ptr (some (0,0))),(.agg (gF o)),(.int .i64 k),(.bool had)] [(some (.cells [(.acc 1 0 2 aY.length true)] false false)),(some (.cells (aD aY) false true))] (Cn o k had aY r).1 (Cn o k had aY r).2:=by
 unfold vg at h
 exact aZ (MK _) axG h (.br 25 (λ_=>.bd λx1 q1=>Cl0 (ET (d+0) q1) <| .st none <| .kl [1] <| Fn Fo [] Tw) λ_=>.br 32 (λ_=>.st none <| Fn Fo [] Tw) λ_=>.gd λq2=>.ob q2 <| .gd λq3=>.ob (anl q3:(0≤k∧k≤((aY.length:Nat):Int))) <| .ap 22 (Nl aY k (⟨o.Key,o.Value⟩:av)).length (aD (Nl aY k (⟨o.Key,o.Value⟩:av))) <| .ob (anm (l:=aY) q3:aY.length+1=(Nl aY k (⟨o.Key,o.Value⟩:av)).length) <| .ob (aru aO rfl:(aD aY).take (k.toNat * 2)++([(.str o.Key),(.str o.Value)]++(aD aY).drop (k.toNat * 2))=aD (Nl aY k (⟨o.Key,o.Value⟩:av))) <| .ob (avv (l:=aY) q3:dx 32 (Nl aY k (⟨o.Key,o.Value⟩:av)).length=true) <| .st none <| .st none <| .kl [1] <| Fn Fo [] Tw)
def rV (o:bE) (aY:List av):Option (aB×List av) :=
 (Ab o).bind λ(x1:Bool)=>cond (!x1) (some ((⟨1,([]:List UInt8)⟩:aB),aY)) ((tL o.Key aY).bind λ(x2:Int×Bool)=>cond (o.Kind==2) ((vg o x2.1 x2.2 aY).bind λ(x3:aB×List av)=>some (x3.1,x3.2)) (cond (!x2.2) (some ((⟨4,([]:List UInt8)⟩:aB),aY)) (cond (o.Kind==1) ((bV aY x2.1).bind λ(x4:av)=>some ((⟨0,x4.Value⟩:aB),aY)) (cond (o.Kind==4) ((u_ o x2.1 aY).bind λ(x5:aB×List av)=>some (x5.1,x5.2)) (gd (dx 32 aY.length) (gd (arv x2.1 (IntKind.i64.wrap (x2.1+1)) aY.length) (some ((⟨0,([]:List UInt8)⟩:aB),(Qs aY x2.1 (IntKind.i64.wrap (x2.1+1)))))))))))
def D9 (o:bE) (aY:List av) (r:aB×List av):AV×WH:=((.agg (dZ r.1)),[(some (.cells [(.acc 2 0 2 r.2.length true)] false false)),none,(some (.cells (aD r.2) false true))])
theorem Sz (d:Nat) {o:bE} {aY:List av} {r:aB×List av} (h:rV o aY=some r):Spec (aF aH (d+6)) 141 [(.ptr (some (0,0))),(.agg (gF o))] [(some (.cells [(.acc 1 0 2 aY.length true)] false false)),(some (.cells (aD aY) false true))] (D9 o aY r).1 (D9 o aY r).2:=by
 unfold rV at h
 exact aZ (MK _) axB h (.bd λx1 q1=>iN (Rq (d+4) q1) <| .br 9 (λ_=>.st none <| Fn Fo [] Tw) λ_=>.bd λx2 q2=>Cl0 (O5 (d+0) q2) <| .br 18 (λ_=>.bd λx3 q3=>Cl0 (QG (d+2) q3) <| .st none <| Fn Fo [] Tw) λ_=>.br 27 (λ_=>.st none <| Fn Fo [] Tw) λ_=>.br 31 (λ_=>.bd λx4 q4=>Ia aO 40 1 q4 <| Ld aO 42 false 1 1 q4 (.str x4.Value) rfl <| .st none <| Fn Fo [] Tw) λ_=>.br 44 (λ_=>.bd λx5 q5=>Cl0 (QF (d+2) q5) <| .st none <| Fn Fo [] Tw) λ_=>.gd λq6=>.ob q6 <| .gd λq7=>.ob (ano q7:(0≤x2.1∧x2.1 < (IntKind.i64.wrap (x2.1+1))∧(IntKind.i64.wrap (x2.1+1))≤((aY.length:Nat):Int))) <| .ap 61 (Qs aY x2.1 (IntKind.i64.wrap (x2.1+1))).length (aD (Qs aY x2.1 (IntKind.i64.wrap (x2.1+1)))) <| .ob (avw (l:=aY) q7:aY.length - ((IntKind.i64.wrap (x2.1+1)).toNat - x2.1.toNat)=(Qs aY x2.1 (IntKind.i64.wrap (x2.1+1))).length) <| .ob (arw aO:(aD aY).take (x2.1.toNat * 2)++(aD aY).drop ((IntKind.i64.wrap (x2.1+1)).toNat * 2)=aD (Qs aY x2.1 (IntKind.i64.wrap (x2.1+1)))) <| .st none <| .st none <| .kl [1] <| Fn Fo [] Tw)
def Bu (p:List av) (s5:Int×List av):List AV×WH:=([(.ptr (some (0,0))),(.ptr (some (1,0))),(bL p),(.int .i64 (p.length:Int)),(.int .i64 s5.1)],[(some (.cells [(.acc 2 0 2 0 true)] false false)),(some (.cells [(.acc 3 0 2 s5.2.length true)] false false)),(some (.cells (aD []) false true)),(some (.cells (aD s5.2) false true))])
def EC (p:List av):(List av)→Ex×Fast×WH:=λe=>((.exit 0),[(2,(.ptr (some (0,0)))),(3,(.ptr (some (1,0))))],[(some (.cells [(.acc 2 0 2 0 true)] false false)),(some (.cells [(.acc 3 0 2 e.length true)] false false)),(some (.cells (aD []) false true)),(some (.cells (aD e) false true))])
abbrev aaS (p:List av):=dF [2,3,6,7,8] (Bu p) (EC p)
def uG (p:List av) (s5:Int×List av):Option ((Int×List av)⊕((List av))) :=
 cond (decide (s5.1 < (p.length:Int))) ((bV p s5.1).bind λ(x6:av)=>(rV (⟨2,x6.Key,x6.Value,([]:List UInt8)⟩:bE) s5.2).bind λ(x7:aB×List av)=>some (.inl ((IntKind.i64.wrap (s5.1+1)),x7.2))) (some (.inr s5.2))
def O6 (p:List av) (s5:Int×List av):Option ((List av)):=bQ (uG p) KK s5
theorem acp (d:Nat) {p:List av} {s5:Int×List av} {r:(Int×List av)⊕((List av))} (h:uG p s5=some r):bN (aV (aF aH (d+6)) KK 20 aeU) 0 (jJ [2,3,6,7,8] (Bu p s5)) (aaS p r):=by
 unfold uG at h
 exact bC nB ajw h (.br 9 (λ_=>.bd λx6 q6=>Ix aO 10 q6 <| .st none <| .bd λx7 q7=>Cl0 (Sz (d+0) q7) <| E1 [2,3,6,7,8] [none,none,none,none,none] [] [.undef,.undef,.slice none 2 0 0 true,.undef,.undef]) λ_=>E0 [2,3])
theorem acr (d:Nat) {p:List av} {s5:Int×List av} {r:(List av)} (h:O6 p s5=some r):bN (eY (aV (aF aH (d+6)) KK 20 aeU) [2,3,6,7,8] KK) 0 (jJ [2,3,6,7,8] (Bu p s5)) (EC p r) :=
 cO (st:=Bu p) (fin:=EC p) (step:=uG p) (λe=>by (intro h;cases h)) (λs x h=>acp d h) KK s5 r h
def O7 (p:List av):Option (sI) :=
 (O6 p (0,[])).bind λ(x8:(List av))=>some (⟨x8⟩:sI)
def UK (p:List av) (r:sI):AV×WH:=((.agg (abO r)),[])
theorem ajK (d:Nat) {p:List av} {r:sI} (h:O7 p=some r):Spec (aF aH (d+7)) 135 [(bL p)] [] (UK p r).1 (UK p r).2:=by
 unfold O7 at h
 exact aZ nB axw h (.z 2 [.slice none 2 0 0 true] <| .z 3 [.slice none 2 0 0 true] <| .bd λx8 q8=>Lp [none,none,none,none,none] [Tw,Tw,Tw,Tw] [.undef,.undef,.slice none 2 0 0 true,.undef,.undef] (acr (d+0) q8) <| .st none <| Fn Fo [.agg [.slice none 2 0 0 true]] none)
abbrev Fu (aQ:au) (dV:aW):Fast×WH:=([(0,(.ptr (some (0,0)))),(3,(.ptr (some (1,0))))],[(some (.cells (dX dV) false false)),(some (.cells (bS aQ) false false))])
def ED (aQ:au) (dV:aW):Unit⊕Unit→Ex×Fast×WH:=fun
 | .inl e=>(.ret,[(4,(.bool false))],[(some (.cells (dX dV) false false))])
 | .inr e=>(.normal,[(0,(.ptr (some (0,0)))),(3,(.ptr (some (1,0))))],[(some (.cells (dX dV) false false)),(some (.cells (bS aQ) false false))])
def fu (aQ:au) (dV:aW):Option (Unit⊕Unit) :=
 cond (decide (aQ.Client < 0)) (some (.inl ())) (cond (decide (aQ.Client≥4)) (some (.inl ())) (cond (decide (aQ.Seq < 1)) (some (.inl ())) ((bV (dV.l.RX) aQ.Client).bind λ(x1:au)=>cond (decide (aQ.Seq≤x1.Seq)) (some (.inl ())) (some (.inr ())))))
theorem vX (d:Nat) {aQ:au} {dV:aW} {r:Unit⊕Unit} (h:fu aQ dV=some r):bN (aV (aF aH (d+0)) KK 38 aha) 1 (Fu aQ dV) (ED aQ dV r):=by
 unfold fu at h
 exact bC nB ahb h (.br 8 (λ_=>E0 [4]) λ_=>.br 13 (λ_=>E0 [4]) λ_=>.br 18 (λ_=>E0 [4]) λ_=>.bd λx1 q1=>.v 26 (.ptr (some (0,0+aQ.Client.toNat * 4))) <| .ob (anp q1 rfl:wP (.xZ 4 4 (.c (.ptr (some (0,0)))) (.c (.int .i64 aQ.Client)))=some (.ptr (some (0,0+aQ.Client.toNat * 4)))) <| .v 28 (.int .i64 x1.Seq) <| .ob (avx (p:=0) (o:=1) bW q1 rfl rfl:Cj false (0+aQ.Client.toNat * 4+1) 1 (dX dV)=some (.int .i64 x1.Seq)) <| .br 30 (λ_=>E0 [4]) λ_=>E0 [0,3])
def dU (aQ:au) (dV:aW):Option (Bool×aW) :=
 (fu aQ dV).bind λ(x2:Unit⊕Unit)=>cond (jO x2) (some (false,dV)) ((bV (dV.l.RX) aQ.Client).bind λ(x4:au)=>some (true,(⟨(dV.l.set aQ.Client aQ)⟩:aW)))
def xU (aQ:au) (dV:aW) (r:Bool×aW):AV×WH:=((.bool r.1),[(some (.cells (dX r.2) false false))])
theorem KQ (d:Nat) {aQ:au} {dV:aW} {r:Bool×aW} (h:dU aQ dV=some r):Spec (aF aH (d+1)) 142 [(.ptr (some (0,0))),(.agg (bS aQ))] [(some (.cells (dX dV) false false))] (xU aQ dV r).1 (xU aQ dV r).2:=by
 unfold dU at h
 exact aZ nB axC h (.sk <| .bd λx2 q2=>.ite (λhb3=>Jn [0,3] [none,none] [] [] (j6 (il hb3) (vX (d+0) q2)) <| Fn Fo [] none) λhb3=>Jn [0,3] [none,none] [] [] (j6 (Ai hb3) (vX (d+0) q2)) <| .bd λx4 q4=>.v 37 (.ptr (some (0,0+aQ.Client.toNat * 4))) <| .ob (anp q4 rfl:wP (.xZ 4 4 (.c (.ptr (some (0,0)))) (.c (.int .i64 aQ.Client)))=some (.ptr (some (0,0+aQ.Client.toNat * 4)))) <| .st (some (dX (⟨(dV.l.set aQ.Client aQ)⟩:aW))) <| .ob (avy (p:=0) (o:=0) bW q4 (A4.arA _ q4) rfl (Nat.le_of_ble_eq_true rfl) rfl rfl:Xv (dX dV) (0+aQ.Client.toNat * 4) [(.int .i64 aQ.Client),(.int .i64 aQ.Seq),(.int .i64 aQ.Answer.Why),(.str aQ.Answer.Value)]=some (dX (⟨(dV.l.set aQ.Client aQ)⟩:aW))) <| Fn Fo [] none)
def rF (l:List au) (s3:Int×aW):List AV×WH:=([(.ptr (some (0,0))),(.ptr (some (1,0))),(dw l),(.int .i64 (l.length:Int)),(.int .i64 s3.1)],[(some (.cells (dX (⟨(⟨(⟨0,0,(⟨0,([]:List UInt8)⟩:aB)⟩:au),(⟨0,0,(⟨0,([]:List UInt8)⟩:aB)⟩:au),(⟨0,0,(⟨0,([]:List UInt8)⟩:aB)⟩:au),(⟨0,0,(⟨0,([]:List UInt8)⟩:aB)⟩:au)⟩:A4 au)⟩:aW)) false false)),(some (.cells (dX s3.2) false false))])
def vY (l:List au):aW→Ex×Fast×WH:=λe=>((.exit 0),[(2,(.ptr (some (0,0)))),(3,(.ptr (some (1,0))))],[(some (.cells (dX (⟨(⟨(⟨0,0,(⟨0,([]:List UInt8)⟩:aB)⟩:au),(⟨0,0,(⟨0,([]:List UInt8)⟩:aB)⟩:au),(⟨0,0,(⟨0,([]:List UInt8)⟩:aB)⟩:au),(⟨0,0,(⟨0,([]:List UInt8)⟩:aB)⟩:au)⟩:A4 au)⟩:aW)) false false)),(some (.cells (dX e) false false))])
abbrev QH (l:List au):=dF [2,3,6,7,8] (rF l) (vY l)
def iQ (l:List au) (s3:Int×aW):Option ((Int×aW)⊕(aW)) :=
 cond (decide (s3.1 < (l.length:Int))) ((bV l s3.1).bind λ(x4:au)=>(dU x4 s3.2).bind λ(x5:Bool×aW)=>some (.inl ((IntKind.i64.wrap (s3.1+1)),x5.2))) (some (.inr s3.2))
def xC (l:List au) (s3:Int×aW):Option (aW):=bQ (iQ l) KK s3
theorem SA (d:Nat) {l:List au} {s3:Int×aW} {r:(Int×aW)⊕(aW)} (h:iQ l s3=some r):bN (aV (aF aH (d+1)) KK 16 aeV) 0 (jJ [2,3,6,7,8] (rF l s3)) (QH l r):=by
 unfold iQ at h
 exact bC nB ajx h (.br 9 (λ_=>.bd λx4 q4=>Ix bW 10 q4 <| .st none <| .bd λx5 q5=>Cl [] Fo [] (KQ (d+0) q5) <| E1 [2,3,6,7,8] [none,none,none,none,none] [] [.undef,.undef,.slice none 4 0 0 true,.undef,.undef]) λ_=>E0 [2,3])
theorem SB (d:Nat) {l:List au} {s3:Int×aW} {r:aW} (h:xC l s3=some r):bN (eY (aV (aF aH (d+1)) KK 16 aeV) [2,3,6,7,8] KK) 0 (jJ [2,3,6,7,8] (rF l s3)) (vY l r) :=
 cO (st:=rF l) (fin:=vY l) (step:=iQ l) (λe=>by (intro h;cases h)) (λs x h=>SA d h) KK s3 r h
def nN (l:List au):Option (aW) :=
 (xC l (0,(⟨(⟨(⟨0,0,(⟨0,([]:List UInt8)⟩:aB)⟩:au),(⟨0,0,(⟨0,([]:List UInt8)⟩:aB)⟩:au),(⟨0,0,(⟨0,([]:List UInt8)⟩:aB)⟩:au),(⟨0,0,(⟨0,([]:List UInt8)⟩:aB)⟩:au)⟩:A4 au)⟩:aW))).bind λ(x6:aW)=>some x6
def I4 (l:List au) (r:aW):AV×WH:=((.agg (dX r)),[])
theorem Yw (d:Nat) {l:List au} {r:aW} (h:nN l=some r):Spec (aF aH (d+2)) 136 [(dw l)] [] (I4 l r).1 (I4 l r).2:=by
 unfold nN at h
 exact aZ nB axx h (.bd λx6 q6=>Lp [none,none,none,none,none] [] [.undef,.undef,.slice none 4 0 0 true,.undef,.undef] (SB (d+0) q6) <| .st none <| Fn Fo [] none)
def GJ (aQ:aC):Option (dM) :=
 (O7 aQ.Pairs).bind λ(x1:sI)=>(nN aQ.dN).bind λ(x2:aW)=>some (⟨x1,x2,aQ.dR,aQ.Epoch⟩:dM)
def UL (aQ:aC) (r:dM):AV×WH:=((.agg (nM r)),[])
theorem ajL (d:Nat) {aQ:aC} {r:dM} (h:GJ aQ=some r):Spec (aF aH (d+8)) 116 [(.agg (bK aQ))] [] (UL aQ r).1 (UL aQ r).2:=by
 unfold GJ at h
 exact aZ nB axe h (.z 2 [.slice none 2 0 0 true,.undef,.undef,.undef,.undef,.undef,.undef,.undef,.undef,.undef,.undef,.undef,.undef,.undef,.undef,.undef,.undef,.undef,.undef] <| .bd λx1 q1=>Cl [] Fo [.slice none 2 0 0 true] (ajK (d+0) q1) <| .er <| .ob (rfl:@Eq (Option AV) (some (dw aQ.dN)) (some (dw aQ.dN))) <| .bd λx2 q2=>Cb [.slice none 4 0 0 true] (Yw (d+5) q2) <| .st none <| Fn Fo [.agg [.slice none 2 0 0 true,.undef,.undef,.undef,.undef,.undef,.undef,.undef,.undef,.undef,.undef,.undef,.undef,.undef,.undef,.undef,.undef,.undef,.undef]] none)
def qK (t:dM):Option (List av) :=
 gd (dx 32 t.Table.l.length) (some t.Table.l)
def Co (t:dM) (r:List av):AV×WH:=((bL r),[(some (.cells (nM t) false false))])
theorem QI (d:Nat) {t:dM} {r:List av} (h:qK t=some r):Spec (aF aH (d+2)) 117 [(.ptr (some (0,0)))] [(some (.cells (nM t) false false))] (Co t r).1 (Co t r).2:=by
 unfold qK at h
 exact aZ (MK _) axf h (.z 2 [.slice none 2 0 0 true] <| .gd λq1=>.ob q1 <| Fn Fo [.slice none 2 0 0 true] none)
def gZ (a0:List av) (a1:List av) (s3:Int):List AV×WH:=([(bL a0),(bL a1),(.int .i64 (a0.length:Int)),(.int .i64 s3)],[])
def iW (a0:List av) (a1:List av):Unit⊕Unit→Ex×Fast×WH:=fun
 | .inl e=>(.ret,[(4,(.bool false))],[])
 | .inr e=>((.exit 0),[],[])
abbrev yt (a0:List av) (a1:List av):=dF [0,1,12,13] (gZ a0 a1) (iW a0 a1)
def fP (a0:List av) (a1:List av) (s3:Int):Option ((Int)⊕(Unit⊕Unit)) :=
 cond (decide (s3 < (a0.length:Int))) ((bV a0 s3).bind λ(x4:av)=>(bV a1 s3).bind λ(x5:av)=>cond (!(x4.Key==x5.Key&&(x4.Value==x5.Value&&true))) (some (.inr (.inl ()))) (some (.inl (IntKind.i64.wrap (s3+1))))) (some (.inr (.inr ())))
def jW (a0:List av) (a1:List av) (s3:Int):Option (Unit⊕Unit):=bQ (fP a0 a1) KK s3
theorem yQ (d:Nat) {a0:List av} {a1:List av} {s3:Int} {r:(Int)⊕(Unit⊕Unit)} (h:fP a0 a1 s3=some r):bN (aV (aF aH (d+0)) KK 26 ajl) 0 (jJ [0,1,12,13] (gZ a0 a1 s3)) (yt a0 a1 r):=by
 unfold fP at h
 exact bC nB al1 h (.br 14 (λ_=>.bd λx4 q4=>Ix aO 18 q4 <| .bd λx5 q5=>Ix aO 22 q5 <| .br 24 (λ_=>E0 [4]) λ_=>E1 [0,1,12,13] [none,none,none,none] [] [.slice none 2 0 0 true,.slice none 2 0 0 true,.undef,.undef]) λ_=>E0 [])
theorem nO (d:Nat) {a0:List av} {a1:List av} {s3:Int} {r:Unit⊕Unit} (h:jW a0 a1 s3=some r):bN (eY (aV (aF aH (d+0)) KK 26 ajl) [0,1,12,13] KK) 0 (jJ [0,1,12,13] (gZ a0 a1 s3)) (iW a0 a1 r) :=
 cO (st:=gZ a0 a1) (fin:=iW a0 a1) (step:=fP a0 a1) (λe=>by rcases e with e | e<;>(intro h;cases h)) (λs x h=>yQ d h) KK s3 r h
def fV (a0:List av) (a1:List av):Option (Bool) :=
 cond ((a0.length:Int) != (a1.length:Int)) (some false) ((jW a0 a1 0).bind λ(x6:Unit⊕Unit)=>cond (jO x6) (some false) (some true))
def ou (a0:List av) (a1:List av) (r:Bool):AV×WH:=((.bool r),[])
theorem qL (d:Nat) {a0:List av} {a1:List av} {r:Bool} (h:fV a0 a1=some r):Spec (aF aH (d+1)) 96 [(bL a0),(bL a1)] [] (ou a0 a1 r).1 (ou a0 a1 r).2:=by
 unfold fV at h
 exact aZ nB azr h (.br 10 (λ_=>Fn Fo [] none) λ_=>.bd λx6 q6=>.ite (λEu=>Lp [none,none,none,none] [] [.slice none 2 0 0 true,.slice none 2 0 0 true,.undef,.undef] (j6 (il Eu) (nO (d+0) q6)) <| Fn Fo [] none) λEu=>Lp [none,none,none,none] [] [.slice none 2 0 0 true,.slice none 2 0 0 true,.undef,.undef] (j6 (Ai Eu) (nO (d+0) q6)) <| Fn Fo [] none)
def kC (dV:dM) (s5:Int×List au):List AV×WH:=([(.acc 1 0 4 s5.2.length true),(.agg (dX dV.cZ)),(.int .i64 s5.1)],[(some (.cells (nM dV) false false)),(some (.cells (aI s5.2) false true))])
def nI (dV:dM):(List au)→Ex×Fast×WH:=λe=>((.exit 0),[(3,(.acc 1 0 4 e.length true))],[(some (.cells (nM dV) false false)),(some (.cells (aI e) false true))])
abbrev GK (dV:dM):=dF [3,9,10] (kC dV) (nI dV)
def gG (dV:dM) (s5:Int×List au):Option ((Int×List au)⊕((List au))) :=
 cond (decide (s5.1 < 4)) ((bV ([dV.cZ.l.a0,dV.cZ.l.a1,dV.cZ.l.a2,dV.cZ.l.a3]:List au) s5.1).bind λ(x6:au)=>cond (decide (x6.Seq > 0)) (gd (dx 40 (s5.2++[x6]).length) (some (.inl ((IntKind.i64.wrap (s5.1+1)),(s5.2++[x6]))))) (some (.inl ((IntKind.i64.wrap (s5.1+1)),s5.2)))) (some (.inr s5.2))
def rW (dV:dM) (s5:Int×List au):Option ((List au)):=bQ (gG dV) KK s5
theorem Ib (d:Nat) {dV:dM} {s5:Int×List au} {r:(Int×List au)⊕((List au))} (h:gG dV s5=some r):bN (aV (aF aH (d+0)) KK 23 aeQ) 1 (jJ [3,9,10] (kC dV s5)) (GK dV r):=by
 unfold gG at h
 exact bC nB ajs h (.br 11 (λ_=>.bd λx6 q6=>.v 12 (.agg (bS x6)) <| .ob (avz bW q6:wP (.index true 4 4 (.c (.agg (aI ([dV.cZ.l.a0,dV.cZ.l.a1,dV.cZ.l.a2,dV.cZ.l.a3])))) (.c (.int .i64 s5.1)))=some (.agg (bS x6))) <| .st none <| .br 15 (λ_=>.gd λq7=>Ap bW 19 q7 <| E1 [3,9,10] [none,none,none] [] [.slice none 4 0 0 true,.undef,.undef]) λ_=>E1 [3,9,10] [none,none,none] [] [.slice none 4 0 0 true,.undef,.undef]) λ_=>E1 [3] [none] [] [.slice none 4 0 0 true])
theorem Ic (d:Nat) {dV:dM} {s5:Int×List au} {r:(List au)} (h:rW dV s5=some r):bN (eY (aV (aF aH (d+0)) KK 23 aeQ) [3,9,10] KK) 1 (jJ [3,9,10] (kC dV s5)) (nI dV r) :=
 cO (st:=kC dV) (fin:=nI dV) (step:=gG dV) (λe=>by (intro h;cases h)) (λs x h=>Ib d h) KK s5 r h
def l7 (dV:dM):Option (List au) :=
 (rW dV (0,[])).bind λ(x8:(List au))=>some x8
def yR (dV:dM) (r:List au):AV×WH:=((dw r),[(some (.cells (nM dV) false false))])
theorem LW (d:Nat) {dV:dM} {r:List au} (h:l7 dV=some r):Spec (aF aH (d+2)) 118 [(.ptr (some (0,1)))] [(some (.cells (nM dV) false false))] (yR dV r).1 (yR dV r).2:=by
 unfold l7 at h
 exact aZ (MK _) axg h (.z 2 [.slice none 4 0 0 true] <| .z 3 [.slice none 4 0 0 true] <| .bd λx8 q8=>Lp [Tw,none,none] [] [.slice none 4 0 0 true,.undef,.undef] (Ic (d+1) q8) <| Fn Fo [.slice none 4 0 0 true] none)
def g_ (a0:List au) (a1:List au) (s3:Int):List AV×WH:=([(dw a0),(dw a1),(.int .i64 (a0.length:Int)),(.int .i64 s3)],[])
def iX (a0:List au) (a1:List au):Unit⊕Unit→Ex×Fast×WH:=fun
 | .inl e=>(.ret,[(4,(.bool false))],[])
 | .inr e=>((.exit 0),[],[])
abbrev yu (a0:List au) (a1:List au):=dF [0,1,12,13] (g_ a0 a1) (iX a0 a1)
def fQ (a0:List au) (a1:List au) (s3:Int):Option ((Int)⊕(Unit⊕Unit)) :=
 cond (decide (s3 < (a0.length:Int))) ((bV a0 s3).bind λ(x4:au)=>(bV a1 s3).bind λ(x5:au)=>cond (!(x4.Client==x5.Client&&(x4.Seq==x5.Seq&&(x4.Answer.Why==x5.Answer.Why&&(x4.Answer.Value==x5.Answer.Value&&true))))) (some (.inr (.inl ()))) (some (.inl (IntKind.i64.wrap (s3+1))))) (some (.inr (.inr ())))
def jX (a0:List au) (a1:List au) (s3:Int):Option (Unit⊕Unit):=bQ (fQ a0 a1) KK s3
theorem yS (d:Nat) {a0:List au} {a1:List au} {s3:Int} {r:(Int)⊕(Unit⊕Unit)} (h:fQ a0 a1 s3=some r):bN (aV (aF aH (d+0)) KK 26 ajm) 0 (jJ [0,1,12,13] (g_ a0 a1 s3)) (yu a0 a1 r):=by
 unfold fQ at h
 exact bC nB al3 h (.br 14 (λ_=>.bd λx4 q4=>Ix bW 18 q4 <| .bd λx5 q5=>Ix bW 22 q5 <| .br 24 (λ_=>E0 [4]) λ_=>E1 [0,1,12,13] [none,none,none,none] [] [.slice none 4 0 0 true,.slice none 4 0 0 true,.undef,.undef]) λ_=>E0 [])
theorem nP (d:Nat) {a0:List au} {a1:List au} {s3:Int} {r:Unit⊕Unit} (h:jX a0 a1 s3=some r):bN (eY (aV (aF aH (d+0)) KK 26 ajm) [0,1,12,13] KK) 0 (jJ [0,1,12,13] (g_ a0 a1 s3)) (iX a0 a1 r) :=
 cO (st:=g_ a0 a1) (fin:=iX a0 a1) (step:=fQ a0 a1) (λe=>by rcases e with e | e<;>(intro h;cases h)) (λs x h=>yS d h) KK s3 r h
def fZ (a0:List au) (a1:List au):Option (Bool) :=
 cond ((a0.length:Int) != (a1.length:Int)) (some false) ((jX a0 a1 0).bind λ(x6:Unit⊕Unit)=>cond (jO x6) (some false) (some true))
def ow (a0:List au) (a1:List au) (r:Bool):AV×WH:=((.bool r),[])
theorem qM (d:Nat) {a0:List au} {a1:List au} {r:Bool} (h:fZ a0 a1=some r):Spec (aF aH (d+1)) 97 [(dw a0),(dw a1)] [] (ow a0 a1 r).1 (ow a0 a1 r).2:=by
 unfold fZ at h
 exact aZ nB azs h (.br 10 (λ_=>Fn Fo [] none) λ_=>.bd λx6 q6=>.ite (λEu=>Lp [none,none,none,none] [] [.slice none 4 0 0 true,.slice none 4 0 0 true,.undef,.undef] (j6 (il Eu) (nP (d+0) q6)) <| Fn Fo [] none) λEu=>Lp [none,none,none,none] [] [.slice none 4 0 0 true,.slice none 4 0 0 true,.undef,.undef] (j6 (Ai Eu) (nP (d+0) q6)) <| Fn Fo [] none)
abbrev O8 (aQ:au):Fast×WH:=([(1,(.ptr (some (0,0)))),(5,(.int .i64 aQ.Answer.Why))],[(some (.cells (bS aQ) false false))])
def Nr (aQ:au):Bool→Ex×Fast×WH:=λe=>(.normal,[(1,(.ptr (some (0,0)))),(6,(.bool e))],[(some (.cells (bS aQ) false false))])
def vk (aQ:au):Option (Bool) :=
 cond (aQ.Answer.Why==0) (some true) (cond (aQ.Answer.Why==4) (some true) (cond (aQ.Answer.Why==5) (some true) (some (aQ.Answer.Why==6))))
theorem QJ (d:Nat) {aQ:au} {r:Bool} (h:vk aQ=some r):bN (aV (aF aH (d+0)) KK 21 XD) 0 (O8 aQ) (Nr aQ r):=by
 unfold vk at h
 exact bC nB aan h (.br 6 (λ_=>E0 [1,6]) λ_=>.br 6 (λ_=>E0 [1,6]) λ_=>.br 6 (λ_=>E0 [1,6]) λ_=>E0 [1,6])
def vZ (aQ:au):Option (Bool) :=
 (vk aQ).bind λ(x1:Bool)=>cond x1 (cond (decide ((aQ.Answer.Value.length:Int)≤16)) (some (decide (aQ.Seq≤4611686018427387903))) (some false)) (some false)
def GL (aQ:au) (r:Bool):AV×WH:=((.bool r),[])
theorem WB (d:Nat) {aQ:au} {r:Bool} (h:vZ aQ=some r):Spec (aF aH (d+1)) 121 [(.agg (bS aQ))] [] (GL aQ r).1 (GL aQ r).2:=by
 unfold vZ at h
 exact aZ nB axj h (.sk <| .sk <| .sk <| .bd λx1 q1=>Jn [1,5] [none,none] [] [] (QJ (d+0) q1) <| .br 6 (λ_=>.br 16 (λ_=>Fn Fo [] none) λ_=>Fn Fo [] none) λ_=>Fn Fo [] none)
def Dk (y:au):Option (Bool) :=
 (vZ y).bind λ(x1:Bool)=>some (!x1)
def I5 (y:au) (r:Bool):AV×WH:=((.bool r),[])
theorem Yx (d:Nat) {y:au} {r:Bool} (h:Dk y=some r):Spec (aF aH (d+2)) 120 [(.agg (bS y))] [] (I5 y r).1 (I5 y r).2:=by
 unfold Dk at h
 exact aZ nB axi h (.bd λx1 q1=>iN (WB (d+0) q1) <| Fn Fo [] none)
def gB (a0:List au) (s3:Int):List AV×WH:=([(dw a0),(.func 120 []),(.int .i64 (a0.length:Int)),(.int .i64 s3)],[])
def iB (a0:List au):Int⊕Unit→Ex×Fast×WH:=fun
 | .inl e=>(.ret,[(4,(.int .i64 e))],[])
 | .inr e=>((.exit 0),[],[])
abbrev uQ (a0:List au):=dF [0,1,7,8] (gB a0) (iB a0)
def dK (a0:List au) (s3:Int):Option ((Int)⊕(Int⊕Unit)) :=
 cond (decide (s3 < (a0.length:Int))) ((bV a0 s3).bind λ(x4:au)=>(Dk x4).bind λ(x5:Bool)=>cond x5 (some (.inr (.inl s3))) (some (.inl (IntKind.i64.wrap (s3+1))))) (some (.inr (.inr ())))
def iY (a0:List au) (s3:Int):Option (Int⊕Unit):=bQ (dK a0) KK s3
theorem vE (d:Nat) {a0:List au} {s3:Int} {r:(Int)⊕(Int⊕Unit)} (h:dK a0 s3=some r):bN (aV (aF aH (d+2)) KK 19 aeW) 0 (jJ [0,1,7,8] (gB a0 s3)) (uQ a0 r):=by
 unfold dK at h
 exact bC nB ajy h (.br 9 (λ_=>.bd λx4 q4=>Ix bW 14 q4 <| .bd λx5 q5=>iN (Yx (d+0) q5) <| .br 16 (λ_=>E0 [4]) λ_=>E1 [0,1,7,8] [none,none,none,none] [] [.slice none 4 0 0 true,.undef,.undef,.undef]) λ_=>E0 [])
theorem lG (d:Nat) {a0:List au} {s3:Int} {r:Int⊕Unit} (h:iY a0 s3=some r):bN (eY (aV (aF aH (d+2)) KK 19 aeW) [0,1,7,8] KK) 0 (jJ [0,1,7,8] (gB a0 s3)) (iB a0 r) :=
 cO (st:=gB a0) (fin:=iB a0) (step:=dK a0) (λe=>by rcases e with e | e<;>(intro h;cases h)) (λs x h=>vE d h) KK s3 r h
def iy (a0:List au):Option (Int) :=
 (iY a0 0).bind λ(x6:Int⊕Unit)=>cond (jO x6) (some (zA x6)) (some (-1))
def l9 (a0:List au) (r:Int):AV×WH:=((.int .i64 r),[])
theorem yw (d:Nat) {a0:List au} {r:Int} (h:iy a0=some r):Spec (aF aH (d+3)) 138 [(dw a0),(.func 120 [])] [] (l9 a0 r).1 (l9 a0 r).2:=by
 unfold iy at h
 exact aZ nB axy h (.bd λx6 q6=>.ite (λEu=>Lp [none,none,none,none] [] [.slice none 4 0 0 true,.undef,.undef,.undef] (j6 (il Eu) (lG (d+0) q6)) <| Fn Fo [] none) λEu=>Lp [none,none,none,none] [] [.slice none 4 0 0 true,.undef,.undef,.undef] (j6 (Ai Eu) (lG (d+0) q6)) <| Fn Fo [] none)
def fI (a0:List au):Option (Bool) :=
 (iy a0).bind λ(x1:Int)=>some (decide (x1≥0))
def kM (a0:List au) (r:Bool):AV×WH:=((.bool r),[])
theorem vF (d:Nat) {a0:List au} {r:Bool} (h:fI a0=some r):Spec (aF aH (d+4)) 119 [(dw a0),(.func 120 [])] [] (kM a0 r).1 (kM a0 r).2:=by
 unfold fI at h
 exact aZ nB axh h (.bd λx1 q1=>Cb [.slice none 4 0 0 true] (yw (d+0) q1) <| Fn Fo [] none)
abbrev UM (aQ:aC):Fast×WH:=([(1,(.ptr (some (0,0))))],[(some (.cells (bK aQ) false false))])
def SC (aQ:aC):Unit⊕Unit→Ex×Fast×WH:=fun
 | .inl e=>(.ret,[(2,(.bool false))],[])
 | .inr e=>(.normal,[(1,(.ptr (some (0,0))))],[(some (.cells (bK aQ) false false))])
def wh (aQ:aC):Option (Unit⊕Unit) :=
 cond (decide (aQ.dR < 0)) (some (.inl ())) (cond (decide (aQ.dR≥6)) (some (.inl ())) (cond (decide (aQ.Epoch < 1)) (some (.inl ())) (cond (decide (aQ.Epoch > 1099511627776)) (some (.inl ())) (some (.inr ())))))
theorem KR (d:Nat) {aQ:aC} {r:Unit⊕Unit} (h:wh aQ=some r):bN (aV (aF aH (d+0)) KK 44 akI) 0 (UM aQ) (SC aQ r):=by
 unfold wh at h
 exact bC nB ajg h (.br 8 (λ_=>E0 [2]) λ_=>.br 13 (λ_=>E0 [2]) λ_=>.br 18 (λ_=>E0 [2]) λ_=>.br 22 (λ_=>E0 [2]) λ_=>E0 [1])
abbrev UN (x3:dM) (aQ:aC):Fast×WH:=([(1,(.ptr (some (0,0)))),(3,(.ptr (some (1,0))))],[(some (.cells (bK aQ) false false)),(some (.cells (nM x3) false false))])
def SE (x3:dM) (aQ:aC):Bool→Ex×Fast×WH:=λe=>(.normal,[(1,(.ptr (some (0,0)))),(4,(.bool e))],[(some (.cells (bK aQ) false false))])
def oz (x3:dM) (aQ:aC):Option (Bool) :=
 (qK x3).bind λ(x4:List av)=>(fV x4 aQ.Pairs).bind λ(x5:Bool)=>cond x5 ((l7 x3).bind λ(x6:List au)=>(fZ x6 aQ.dN).bind λ(x7:Bool)=>some x7) (some false)
theorem WC (d:Nat) {x3:dM} {aQ:aC} {r:Bool} (h:oz x3 aQ=some r):bN (aV (aF aH (d+2)) KK 44 ads) 0 (UN x3 aQ) (SE x3 aQ r):=by
 unfold oz at h
 exact bC nB aeJ h (.bd λx4 q4=>Cl [] Fo [] (QI (d+0) q4) <| .er <| .ob (rfl:@Eq (Option AV) (some (bL aQ.Pairs)) (some (bL aQ.Pairs))) <| .bd λx5 q5=>Cb [.slice none 2 0 0 true,.slice none 2 0 0 true] (qL (d+1) q5) <| .br 30 (λ_=>.bd λx6 q6=>Cl [] Fo [] (LW (d+0) q6) <| .er <| .ob (rfl:@Eq (Option AV) (some (dw aQ.dN)) (some (dw aQ.dN))) <| .bd λx7 q7=>Cb [.slice none 4 0 0 true,.slice none 4 0 0 true] (qM (d+1) q7) <| E0 [1,4]) λ_=>E0 [1,4])
def wm (aQ:aC):Option (Bool) :=
 (wh aQ).bind λ(x1:Unit⊕Unit)=>cond (jO x1) (some false) ((GJ aQ).bind λ(x3:dM)=>(oz x3 aQ).bind λ(x8:Bool)=>cond x8 ((fI aQ.dN).bind λ(x9:Bool)=>some (!x9)) (some false))
def MX (aQ:aC) (r:Bool):AV×WH:=((.bool r),[])
theorem acs (d:Nat) {aQ:aC} {r:Bool} (h:wm aQ=some r):Spec (aF aH (d+9)) 90 [(.agg (bK aQ))] [] (MX aQ r).1 (MX aQ r).2:=by
 unfold wm at h
 exact aZ nB azn h (.sk <| .bd λx1 q1=>.ite (λhb2=>Jn [1] [none] [] [] (j6 (il hb2) (KR (d+8) q1)) <| Fn Fo [] none) λhb2=>Jn [1] [none] [] [] (j6 (Ai hb2) (KR (d+8) q1)) <| .bd λx3 q3=>Cl [] Fo [.agg [.undef,.undef,.slice none 2 0 0 true,.slice none 4 0 0 true]] (ajL (d+0) q3) <| .z 3 [.slice none 2 0 0 true,.undef,.undef,.undef,.undef,.undef,.undef,.undef,.undef,.undef,.undef,.undef,.undef,.undef,.undef,.undef,.undef,.undef,.undef] <| .st none <| .bd λx8 q8=>Jn [1,3] [none,none] [] [] (WC (d+6) q8) <| .br 38 (λ_=>.bd λx9 q9=>Cb [.slice none 4 0 0 true] (vF (d+4) q9) <| Fn Fo [] none) λ_=>Fn Fo [] none)
def lC (aQ:aC):Option (Bool) :=
 (GH aQ).bind λ(x1:Bool)=>cond x1 (some true) ((wm aQ).bind λ(x2:Bool)=>some x2)
def D_ (aQ:aC) (r:Bool):AV×WH:=((.bool r),[])
theorem zK (d:Nat) {aQ:aC} {r:Bool} (h:lC aQ=some r):Spec (aF aH (d+10)) 51 [(.agg (bK aQ))] [] (D_ aQ r).1 (D_ aQ r).2:=by
 unfold lC at h
 exact aZ nB ayQ h (.bd λx1 q1=>Cb [.agg [.undef,.undef,.slice none 2 0 0 true,.slice none 4 0 0 true]] (aff (d+8) q1) <| .br 5 (λ_=>Fn Fo [] none) λ_=>.bd λx2 q2=>Cb [.agg [.undef,.undef,.slice none 2 0 0 true,.slice none 4 0 0 true]] (acs (d+0) q2) <| Fn Fo [] none)
abbrev Yy (m:aM):Fast×WH:=([(1,(.ptr (some (0,0)))),(3,(.func 43 []))],[(some (.cells (dh m) false false))])
def WE (m:aM):Bool→Ex×Fast×WH:=λe=>(.normal,[(1,(.ptr (some (0,0)))),(3,(.func 43 [])),(4,(.bool e))],[(some (.cells (dh m) false false))])
def Fv (m:aM):Option (Bool) :=
 cond (decide (m.Kind < 1)) (some true) (some (decide (m.Kind > 10)))
theorem aaT (d:Nat) {m:aM} {r:Bool} (h:Fv m=some r):bN (aV (aF aH (d+0)) KK 46 XA) 0 (Yy m) (WE m r):=by
 unfold Fv at h
 exact bC nB Z5 h (.br 8 (λ_=>E0 [1,3,4]) λ_=>E0 [1,3,4])
abbrev Yz (m:aM):Fast×WH:=([(1,(.ptr (some (0,0)))),(3,(.func 43 []))],[(some (.cells (dh m) false false))])
def WG (m:aM):Bool→Ex×Fast×WH:=λe=>(.normal,[(1,(.ptr (some (0,0)))),(3,(.func 43 [])),(4,(.bool e))],[(some (.cells (dh m) false false))])
def Fw (m:aM):Option (Bool) :=
 (Fv m).bind λ(x1:Bool)=>cond x1 (some true) ((Bh m).bind λ(x2:List Int)=>(gT x2).bind λ(x3:Bool)=>some x3)
theorem aaU (d:Nat) {m:aM} {r:Bool} (h:Fw m=some r):bN (aV (aF aH (d+4)) KK 46 Z4) 0 (Yz m) (WG m r):=by
 unfold Fw at h
 exact bC nB abR h (.bd λx1 q1=>Jn [1,3] [none,none] [] [] (aaT (d+4) q1) <| .br 4 (λ_=>E0 [1,3,4]) λ_=>.bd λx2 q2=>Cl [] Fo [.agg [.undef,.undef,.undef,.undef,.undef,.undef,.undef,.undef,.undef,.undef,.undef,.undef,.undef,.undef,.undef,.undef,.undef,.slice none 1 0 0 true,.slice none 5 0 0 true,.undef,.undef,.slice none 2 0 0 true,.slice none 4 0 0 true]] (LV (d+3) q2) <| .bd λx3 q3=>iN (sM (d+0) q3) <| E0 [1,3,4])
abbrev YA (m:aM):Fast×WH:=([(1,(.ptr (some (0,0)))),(3,(.func 43 []))],[(some (.cells (dh m) false false))])
def WI (m:aM):Unit⊕Unit→Ex×Fast×WH:=fun
 | .inl e=>(.ret,[(2,(.bool false))],[])
 | .inr e=>(.normal,[(1,(.ptr (some (0,0))))],[(some (.cells (dh m) false false))])
def Fx (m:aM):Option (Unit⊕Unit) :=
 (Fw m).bind λ(x4:Bool)=>cond x4 (some (.inl ())) (cond (decide ((m.Path.length:Int) > 5)) (some (.inl ())) (cond (decide ((m.Table.length:Int) > 5)) (some (.inl ())) ((gT m.Path).bind λ(x5:Bool)=>cond x5 (some (.inl ())) ((eZ m.Table).bind λ(x6:Bool)=>cond x6 (some (.inl ())) (some (.inr ()))))))
theorem O9 (d:Nat) {m:aM} {r:Unit⊕Unit} (h:Fx m=some r):bN (aV (aF aH (d+4)) KK 46 agy) 0 (YA m) (WI m r):=by
 unfold Fx at h
 exact bC nB agz h (.bd λx4 q4=>Jn [1,3] [none,none] [] [] (aaU (d+0) q4) <| .br 4 (λ_=>E0 [2]) λ_=>.br 17 (λ_=>E0 [2]) λ_=>.br 17 (λ_=>E0 [2]) λ_=>.bd λx5 q5=>iN (sM (d+0) q5) <| .br 17 (λ_=>E0 [2]) λ_=>.bd λx6 q6=>Cb [.slice none 5 0 0 true] (uq (d+0) q6) <| .br 17 (λ_=>E0 [2]) λ_=>E0 [1])
def xD (m:aM):Option (Bool) :=
 (Fx m).bind λ(x7:Unit⊕Unit)=>cond (jO x7) (some false) ((oo m.Fa).bind λ(x9:Bool)=>cond x9 ((ku m.Answer).bind λ(x10:Bool)=>cond x10 ((lC m.mZ).bind λ(bY:Bool)=>some bY) (some false)) (some false))
def Rs (m:aM) (r:Bool):AV×WH:=((.bool r),[])
theorem I6 (d:Nat) {m:aM} {r:Bool} (h:xD m=some r):Spec (aF aH (d+11)) 10 [(.agg (dh m))] [] (Rs m r).1 (Rs m r).2:=by
 unfold xD at h
 exact aZ nB ayq h (.sk <| .sk <| .bd λx7 q7=>.ite (λhb8=>Jn [1,3] [none,none] [] [] (j6 (il hb8) (O9 (d+6) q7)) <| Fn Fo [] none) λhb8=>Jn [1,3] [none,none] [] [] (j6 (Ai hb8) (O9 (d+6) q7)) <| .bd λx9 q9=>iN (CP (d+8) q9) <| .br 36 (λ_=>.bd λx10 J_=>iN (yj (d+9) J_) <| .br 41 (λ_=>.bd λbY Hz=>Cb [.agg [.undef,.undef,.slice none 2 0 0 true,.slice none 4 0 0 true]] (zK (d+0) Hz) <| Fn Fo [] none) λ_=>Fn Fo [] none) λ_=>Fn Fo [] none)
abbrev aaV (bY:Int) (s10:Int×List UInt8) (n:List Int):Fast×WH:=([(5,(.acc 0 0 1 s10.2.length true)),(7,(.int .i64 bY)),(10,(J9 n)),(11,(.int .i64 (n.length:Int))),(12,(.int .i64 s10.1))],[(some (.cells (DF s10.2) false true))])
def YB (bY:Int) (s10:Int×List UInt8) (n:List Int):Unit⊕Unit→Ex×Fast×WH:=fun
 | .inl e=>(.ret,[(4,(.slice none 1 0 0 true))],[])
 | .inr e=>(.normal,[(5,(.acc 0 0 1 s10.2.length true)),(7,(.int .i64 bY)),(10,(J9 n)),(11,(.int .i64 (n.length:Int))),(12,(.int .i64 s10.1))],[(some (.cells (DF s10.2) false true))])
def wo (bY:Int) (s10:Int×List UInt8) (n:List Int):Option (Unit⊕Unit) :=
 cond (decide (bY < 0)) (some (.inl ())) (cond (decide (bY > 4611686018427387903)) (some (.inl ())) (some (.inr ())))
theorem Ru (d:Nat) {bY:Int} {s10:Int×List UInt8} {n:List Int} {r:Unit⊕Unit} (h:wo bY s10 n=some r):bN (aV (aF aH (d+0)) KK 41 AA) 0 (aaV bY s10 n) (YB bY s10 n r):=by
 unfold wo at h
 exact bC nB DK h (.br 18 (λ_=>E0 [4]) λ_=>.br 21 (λ_=>E0 [4]) λ_=>E0 [5,7,10,11,12])
def Bv (n:List Int) (s10:Int×List UInt8) (s15:Int×List UInt8):List AV×WH:=([(.acc 0 0 1 s15.2.length true),(.int .i64 s15.1),(J9 n),(.int .i64 (n.length:Int)),(.int .i64 s10.1)],[(some (.cells (DF s15.2) false true))])
def EF (n:List Int) (s10:Int×List UInt8):(Int×List UInt8)→Ex×Fast×WH:=λe=>((.exit 2),[(5,(.acc 0 0 1 e.2.length true)),(7,(.int .i64 e.1)),(10,(J9 n)),(11,(.int .i64 (n.length:Int))),(12,(.int .i64 s10.1))],[(some (.cells (DF e.2) false true))])
abbrev aaW (n:List Int) (s10:Int×List UInt8):=dF [5,7,10,11,12] (Bv n s10) (EF n s10)
def lV (n:List Int) (s10:Int×List UInt8) (s15:Int×List UInt8):Option ((Int×List UInt8)⊕((Int×List UInt8))) :=
 cond (decide (s15.1 > 127)) (gd (dx 1 (s15.2++[(Af (orI .i64 (E9 .i64 s15.1 127) 128))]).length) (some (.inl ((abL .i64 s15.1 7),(s15.2++[(Af (orI .i64 (E9 .i64 s15.1 127) 128))]))))) (some (.inr (s15.1,s15.2)))
def O_ (n:List Int) (s10:Int×List UInt8) (s15:Int×List UInt8):Option ((Int×List UInt8)):=bQ (lV n s10) KK s15
theorem acu (d:Nat) {n:List Int} {s10:Int×List UInt8} {s15:Int×List UInt8} {r:(Int×List UInt8)⊕((Int×List UInt8))} (h:lV n s10 s15=some r):bN (aV (aF aH (d+0)) KK 41 aaf) 0 (jJ [5,7,10,11,12] (Bv n s10 s15)) (aaW n s10 r):=by
 unfold lV at h
 exact bC nB adq h (.br 23 (λ_=>.v 28 (.int .u8 ((Af (orI .i64 (E9 .i64 s15.1 127) 128)).toNat:Int)) <| .ob (aey _:@Eq (Option AV) (some (.int .u8 (IntKind.u8.wrap (orI .i64 (E9 .i64 s15.1 127) 128)))) (some (.int .u8 ((Af (orI .i64 (E9 .i64 s15.1 127) 128)).toNat:Int)))) <| .gd λq16=>Ap LA 30 q16 <| E0 [5,7,10,11,12]) λ_=>E0 [5,7,10,11,12])
theorem acv (d:Nat) {n:List Int} {s10:Int×List UInt8} {s15:Int×List UInt8} {r:(Int×List UInt8)} (h:O_ n s10 s15=some r):bN (eY (aV (aF aH (d+0)) KK 41 aaf) [5,7,10,11,12] KK) 0 (jJ [5,7,10,11,12] (Bv n s10 s15)) (EF n s10 r) :=
 cO (st:=Bv n s10) (fin:=EF n s10) (step:=lV n s10) (λe=>by (intro h;cases h)) (λs x h=>acu d h) KK s15 r h
def Bw (n:List Int) (s10:Int×List UInt8):List AV×WH:=([(.acc 0 0 1 s10.2.length true),(J9 n),(.int .i64 (n.length:Int)),(.int .i64 s10.1)],[(some (.cells (DF s10.2) false true))])
def EG (n:List Int):Unit⊕(List UInt8)→Ex×Fast×WH:=fun
 | .inl e=>(.ret,[(4,(.slice none 1 0 0 true))],[])
 | .inr e=>((.exit 0),[(5,(.acc 0 0 1 e.length true))],[(some (.cells (DF e) false true))])
abbrev aaX (n:List Int):=dF [5,10,11,12] (Bw n) (EG n)
def yT (n:List Int) (s10:Int×List UInt8):Option ((Int×List UInt8)⊕(Unit⊕(List UInt8))) :=
 cond (decide (s10.1 < (n.length:Int))) ((bV n s10.1).bind λ(bY:Int)=>(wo bY s10 n).bind λ(dD:Unit⊕Unit)=>cond (jO dD) (some (.inr (.inl ()))) ((O_ n s10 (bY,s10.2)).bind λ(jP:(Int×List UInt8))=>gd (dx 1 (jP.2++[(Af jP.1)]).length) (some (.inl ((IntKind.i64.wrap (s10.1+1)),(jP.2++[(Af jP.1)])))))) (some (.inr (.inr s10.2)))
def Pb (n:List Int) (s10:Int×List UInt8):Option (Unit⊕(List UInt8)):=bQ (yT n) KK s10
theorem acw (d:Nat) {n:List Int} {s10:Int×List UInt8} {r:(Int×List UInt8)⊕(Unit⊕(List UInt8))} (h:yT n s10=some r):bN (aV (aF aH (d+0)) KK 41 aae) 0 (jJ [5,10,11,12] (Bw n s10)) (aaX n r):=by
 unfold yT at h
 exact bC nB adp h (.br 13 (λ_=>.bd λbY Hz=>Ix IB 14 Hz <| .bd λdD LK=>.ite (λR4=>Jn [5,7,10,11,12] [none,none,none,none,none] [] [] (j6 (il R4) (Ru (d+0) LK)) <| E0 [4]) λR4=>Jn [5,7,10,11,12] [none,none,none,none,none] [] [] (j6 (Ai R4) (Ru (d+0) LK)) <| .bd λjP Jm=>Lp [none,none,none,none,none] [] [] (acv (d+0) Jm) <| .v 35 (.int .u8 ((Af jP.1).toNat:Int)) <| .ob (aey _:@Eq (Option AV) (some (.int .u8 (IntKind.u8.wrap jP.1))) (some (.int .u8 ((Af jP.1).toNat:Int)))) <| .gd λV_=>Ap LA 37 V_ <| E0 [5,10,11,12]) λ_=>E0 [5])
theorem Rv (d:Nat) {n:List Int} {s10:Int×List UInt8} {r:Unit⊕(List UInt8)} (h:Pb n s10=some r):bN (eY (aV (aF aH (d+0)) KK 41 aae) [5,10,11,12] KK) 0 (jJ [5,10,11,12] (Bw n s10)) (EG n r) :=
 cO (st:=Bw n) (fin:=EG n) (step:=yT n) (λe=>by rcases e with e | e<;>(intro h;cases h)) (λs x h=>acw d h) KK s10 r h
def ny (bg:List UInt8) (n:List Int):Option (List UInt8) :=
 gd (dx 1 bg.length) ((Pb n (0,bg)).bind λ(mh:Unit⊕(List UInt8))=>cond (jO mh) (some []) (some (X8 mh)))
def UO (bg:List UInt8) (n:List Int) (r:List UInt8):AV×WH:=((kS r),[])
theorem oF (d:Nat) {bg:List UInt8} {n:List Int} {r:List UInt8} (h:ny bg n=some r):Spec (aF aH (d+2)) 55 [(kS bg),(J9 n)] [] (UO bg n r).1 (UO bg n r).2:=by
 unfold ny at h
 exact aZ (MK _) aw1 h (.gd λq1=>.ob q1 <| .bd λmh Qw=>.ite (λajM=>Lp [none,none,none,none] [] [] (j6 (il ajM) (Rv (d+1) Qw)) <| Fn Fo [] none) λajM=>Lp [none,none,none,none] [] [] (j6 (Ai ajM) (Rv (d+1) Qw)) <| Fn Fo [] none)
def UQ (is:Bool):Option (Int) :=
 cond is (some 1) (some 0)
def XM (is:Bool) (r:Int):AV×WH:=((.int .i64 r),[])
theorem adP (d:Nat) {is:Bool} {r:Int} (h:UQ is=some r):Spec (aF aH (d+1)) 56 [(.bool is)] [] (XM is r).1 (XM is r).2:=by
 unfold UQ at h
 exact aZ nB ayU h (.br 3 (λ_=>Fn Fo [] none) λ_=>Fn Fo [] none)
abbrev WJ (bY:Int) (s10:Int×List UInt8) (n:List Int):Fast×WH:=([(5,(.acc 0 0 1 s10.2.length true)),(7,(.int .i64 bY)),(10,(J9 n)),(11,(.int .i64 (n.length:Int))),(12,(.int .i64 s10.1))],[(some (.cells (DF s10.2) false true))])
def UR (bY:Int) (s10:Int×List UInt8) (n:List Int):Unit⊕Unit→Ex×Fast×WH:=fun
 | .inl e=>(.ret,[(4,(.slice none 1 0 0 true))],[])
 | .inr e=>(.normal,[(5,(.acc 0 0 1 s10.2.length true)),(7,(.int .i64 bY)),(10,(J9 n)),(11,(.int .i64 (n.length:Int))),(12,(.int .i64 s10.1))],[(some (.cells (DF s10.2) false true))])
def JK (bY:Int) (s10:Int×List UInt8) (n:List Int):Option (Unit⊕Unit) :=
 cond (decide (bY < 0)) (some (.inl ())) (cond (decide (bY > 4611686018427387903)) (some (.inl ())) (some (.inr ())))
theorem MZ (d:Nat) {bY:Int} {s10:Int×List UInt8} {n:List Int} {r:Unit⊕Unit} (h:JK bY s10 n=some r):bN (aV (aF aH (d+0)) KK 41 AA) 0 (WJ bY s10 n) (UR bY s10 n r):=by
 unfold JK at h
 exact bC nB DK h (.br 18 (λ_=>E0 [4]) λ_=>.br 21 (λ_=>E0 [4]) λ_=>E0 [5,7,10,11,12])
def xE (n:List Int) (s10:Int×List UInt8) (s15:Int×List UInt8):List AV×WH:=([(.acc 0 0 1 s15.2.length true),(.int .i64 s15.1),(J9 n),(.int .i64 (n.length:Int)),(.int .i64 s10.1)],[(some (.cells (DF s15.2) false true))])
def Bz (n:List Int) (s10:Int×List UInt8):(Int×List UInt8)→Ex×Fast×WH:=λe=>((.exit 2),[(5,(.acc 0 0 1 e.2.length true)),(7,(.int .i64 e.1)),(10,(J9 n)),(11,(.int .i64 (n.length:Int))),(12,(.int .i64 s10.1))],[(some (.cells (DF e.2) false true))])
abbrev WK (n:List Int) (s10:Int×List UInt8):=dF [5,7,10,11,12] (xE n s10) (Bz n s10)
def zf (n:List Int) (s10:Int×List UInt8) (s15:Int×List UInt8):Option ((Int×List UInt8)⊕((Int×List UInt8))) :=
 cond (decide (s15.1 > 127)) (gd (dx 1 (s15.2++[(Af (orI .i64 (E9 .i64 s15.1 127) 128))]).length) (some (.inl ((abL .i64 s15.1 7),(s15.2++[(Af (orI .i64 (E9 .i64 s15.1 127) 128))]))))) (some (.inr (s15.1,s15.2)))
def Rw (n:List Int) (s10:Int×List UInt8) (s15:Int×List UInt8):Option ((Int×List UInt8)):=bQ (zf n s10) KK s15
theorem YC (d:Nat) {n:List Int} {s10:Int×List UInt8} {s15:Int×List UInt8} {r:(Int×List UInt8)⊕((Int×List UInt8))} (h:zf n s10 s15=some r):bN (aV (aF aH (d+0)) KK 41 aaf) 0 (jJ [5,7,10,11,12] (xE n s10 s15)) (WK n s10 r):=by
 unfold zf at h
 exact bC nB adq h (.br 23 (λ_=>.v 28 (.int .u8 ((Af (orI .i64 (E9 .i64 s15.1 127) 128)).toNat:Int)) <| .ob (aey _:@Eq (Option AV) (some (.int .u8 (IntKind.u8.wrap (orI .i64 (E9 .i64 s15.1 127) 128)))) (some (.int .u8 ((Af (orI .i64 (E9 .i64 s15.1 127) 128)).toNat:Int)))) <| .gd λq16=>Ap LA 30 q16 <| E0 [5,7,10,11,12]) λ_=>E0 [5,7,10,11,12])
theorem YD (d:Nat) {n:List Int} {s10:Int×List UInt8} {s15:Int×List UInt8} {r:(Int×List UInt8)} (h:Rw n s10 s15=some r):bN (eY (aV (aF aH (d+0)) KK 41 aaf) [5,7,10,11,12] KK) 0 (jJ [5,7,10,11,12] (xE n s10 s15)) (Bz n s10 r) :=
 cO (st:=xE n s10) (fin:=Bz n s10) (step:=zf n s10) (λe=>by (intro h;cases h)) (λs x h=>YC d h) KK s15 r h
def xG (n:List Int) (s10:Int×List UInt8):List AV×WH:=([(.acc 0 0 1 s10.2.length true),(J9 n),(.int .i64 (n.length:Int)),(.int .i64 s10.1)],[(some (.cells (DF s10.2) false true))])
def BA (n:List Int):Unit⊕(List UInt8)→Ex×Fast×WH:=fun
 | .inl e=>(.ret,[(4,(.slice none 1 0 0 true))],[])
 | .inr e=>((.exit 0),[(5,(.acc 0 0 1 e.length true))],[(some (.cells (DF e) false true))])
abbrev WL (n:List Int):=dF [5,10,11,12] (xG n) (BA n)
def zh (n:List Int) (s10:Int×List UInt8):Option ((Int×List UInt8)⊕(Unit⊕(List UInt8))) :=
 cond (decide (s10.1 < (n.length:Int))) ((bV n s10.1).bind λ(bY:Int)=>(JK bY s10 n).bind λ(dD:Unit⊕Unit)=>cond (jO dD) (some (.inr (.inl ()))) ((Rw n s10 (bY,s10.2)).bind λ(jP:(Int×List UInt8))=>gd (dx 1 (jP.2++[(Af jP.1)]).length) (some (.inl ((IntKind.i64.wrap (s10.1+1)),(jP.2++[(Af jP.1)])))))) (some (.inr (.inr s10.2)))
def Rx (n:List Int) (s10:Int×List UInt8):Option (Unit⊕(List UInt8)):=bQ (zh n) KK s10
theorem YE (d:Nat) {n:List Int} {s10:Int×List UInt8} {r:(Int×List UInt8)⊕(Unit⊕(List UInt8))} (h:zh n s10=some r):bN (aV (aF aH (d+0)) KK 41 aae) 0 (jJ [5,10,11,12] (xG n s10)) (WL n r):=by
 unfold zh at h
 exact bC nB adp h (.br 13 (λ_=>.bd λbY Hz=>Ix IB 14 Hz <| .bd λdD LK=>.ite (λR4=>Jn [5,7,10,11,12] [none,none,none,none,none] [] [] (j6 (il R4) (MZ (d+0) LK)) <| E0 [4]) λR4=>Jn [5,7,10,11,12] [none,none,none,none,none] [] [] (j6 (Ai R4) (MZ (d+0) LK)) <| .bd λjP Jm=>Lp [none,none,none,none,none] [] [] (YD (d+0) Jm) <| .v 35 (.int .u8 ((Af jP.1).toNat:Int)) <| .ob (aey _:@Eq (Option AV) (some (.int .u8 (IntKind.u8.wrap jP.1))) (some (.int .u8 ((Af jP.1).toNat:Int)))) <| .gd λV_=>Ap LA 37 V_ <| E0 [5,10,11,12]) λ_=>E0 [5])
theorem M4 (d:Nat) {n:List Int} {s10:Int×List UInt8} {r:Unit⊕(List UInt8)} (h:Rx n s10=some r):bN (eY (aV (aF aH (d+0)) KK 41 aae) [5,10,11,12] KK) 0 (jJ [5,10,11,12] (xG n s10)) (BA n r) :=
 cO (st:=xG n) (fin:=BA n) (step:=zh n) (λe=>by rcases e with e | e<;>(intro h;cases h)) (λs x h=>YE d h) KK s10 r h
def GN (bg:List UInt8) (n:List Int):Option (List UInt8) :=
 gd (dx 1 bg.length) ((Rx n (0,bg)).bind λ(mh:Unit⊕(List UInt8))=>cond (jO mh) (some []) (some (X8 mh)))
def rX (bg:List UInt8) (n:List Int) (r:List UInt8):AV×WH:=((.acc 0 0 1 r.length true),[(some (.cells (DF r) false true))])
theorem afg (d:Nat) {bg:List UInt8} {n:List Int} {r:List UInt8} (h:GN bg n=some r):Spec (aF aH (d+2)) 55 [(kS bg),(J9 n)] [] (rX bg n r).1 (rX bg n r).2:=by
 unfold GN at h
 exact aZ (MK _) aw1 h (.gd λq1=>.ob q1 <| .bd λmh Qw=>.ite (λajM=>Lp [none,none,none,none] [] [] (j6 (il ajM) (M4 (d+1) Qw)) <| .xQ (.fin (some true) [] none) _ (λr=>@Eq AV (.acc 0 0 1 0 true) (rX bg n r).1∧@Eq WH [(some (.cells (DF []) false true))] (rX bg n r).2) (by show _∧_;refine ⟨?_, ?_⟩<;>first | rfl | (simp only [rX,List.length_set,List.length_append,List.length_replicate,List.length_cons,List.length_nil,List.length_take,List.length_drop,Nat.add_zero,Nat.zero_add];done) | simp [rX])) λajM=>Lp [none,none,none,none] [] [] (j6 (Ai ajM) (M4 (d+1) Qw)) <| Fn Tw [] none)
def zi (dV:List (List UInt8)) (s5:Int×List UInt8):List AV×WH:=([(.acc 0 0 1 s5.2.length true),(l_S dV),(.int .i64 (dV.length:Int)),(.int .i64 s5.1)],[(some (.cells (DF s5.2) false true))])
def CQ (dV:List (List UInt8)):(List UInt8)→Ex×Fast×WH:=λe=>((.exit 0),[(5,(.acc 0 0 1 e.length true))],[(some (.cells (DF e) false true))])
abbrev YF (dV:List (List UInt8)):=dF [5,10,11,12] (zi dV) (CQ dV)
def wu (dV:List (List UInt8)) (s5:Int×List UInt8):Option ((Int×List UInt8)⊕((List UInt8))) :=
 cond (decide (s5.1 < (dV.length:Int))) ((bV dV s5.1).bind λ(x6:List UInt8)=>(GN s5.2 ([(x6.length:Int)])).bind λ(x7:List UInt8)=>gd (dx 1 (x7++x6).length) (some (.inl ((IntKind.i64.wrap (s5.1+1)),(x7++x6))))) (some (.inr s5.2))
def LX (dV:List (List UInt8)) (s5:Int×List UInt8):Option ((List UInt8)):=bQ (wu dV) KK s5
theorem aaY (d:Nat) {dV:List (List UInt8)} {s5:Int×List UInt8} {r:(Int×List UInt8)⊕((List UInt8))} (h:wu dV s5=some r):bN (aV (aF aH (d+2)) KK 26 ajk) 0 (jJ [5,10,11,12] (zi dV s5)) (YF dV r):=by
 unfold wu at h
 exact bC nB alZ h (.br 13 (λ_=>.bd λx6 q6=>Ix R_S 14 q6 <| .bd λx7 q7=>Cl [] Fo [] (afg (d+0) q7) <| .gd λq8=>Ap LA 22 q8 <| E0 [5,10,11,12]) λ_=>E0 [5])
theorem aaZ (d:Nat) {dV:List (List UInt8)} {s5:Int×List UInt8} {r:(List UInt8)} (h:LX dV s5=some r):bN (eY (aV (aF aH (d+2)) KK 26 ajk) [5,10,11,12] KK) 0 (jJ [5,10,11,12] (zi dV s5)) (CQ dV r) :=
 cO (st:=zi dV) (fin:=CQ dV) (step:=wu dV) (λe=>by (intro h;cases h)) (λs x h=>aaY d h) KK s5 r h
def CS (bg:List UInt8) (dV:List (List UInt8)):Option (List UInt8) :=
 gd (dx 1 bg.length) ((LX dV (0,bg)).bind λ(x9:(List UInt8))=>some x9)
def Ry (bg:List UInt8) (dV:List (List UInt8)) (r:List UInt8):AV×WH:=((kS r),[])
theorem Pf (d:Nat) {bg:List UInt8} {dV:List (List UInt8)} {r:List UInt8} (h:CS bg dV=some r):Spec (aF aH (d+3)) 95 [(kS bg),(l_S dV)] [] (Ry bg dV r).1 (Ry bg dV r).2:=by
 unfold CS at h
 exact aZ (MK _) azq h (.gd λq1=>.ob q1 <| .bd λx9 q9=>Lp [none,none,none,none] [] [] (aaZ (d+0) q9) <| Fn Fo [] none)
def BD (bg:List UInt8) (p_r:aU):Option (List UInt8) :=
 (oo p_r).bind λ(x1:Bool)=>cond (!x1) (some []) ((ny bg ([p_r.Client,p_r.Seq,p_r.Op.Kind])).bind λ(x2:List UInt8)=>(CS x2 ([p_r.Op.Key,p_r.Op.Value,p_r.Op.Old])).bind λ(x3:List UInt8)=>some x3)
def KS (bg:List UInt8) (p_r:aU) (r:List UInt8):AV×WH:=((kS r),[])
theorem aa0 (d:Nat) {bg:List UInt8} {p_r:aU} {r:List UInt8} (h:BD bg p_r=some r):Spec (aF aH (d+4)) 58 [(kS bg),(.agg (uE p_r))] [] (KS bg p_r r).1 (KS bg p_r r).2:=by
 unfold BD at h
 exact aZ nB ayW h (.bd λx1 q1=>iN (CP (d+1) q1) <| .br 7 (λ_=>Fn Fo [] none) λ_=>.bd λx2 q2=>Cl [] Fo [] (oF (d+1) q2) <| .bd λx3 q3=>Cl [] Fo [] (Pf (d+0) q3) <| Fn Fo [] none)
def qp (bg:List UInt8) (a:aB):Option (List UInt8) :=
 (ku a).bind λ(x1:Bool)=>cond (!x1) (some []) ((ny bg [a.Why]).bind λ(x2:List UInt8)=>(CS x2 [a.Value]).bind λ(x3:List UInt8)=>some x3)
def EU (bg:List UInt8) (a:aB) (r:List UInt8):AV×WH:=((kS r),[])
theorem I7 (d:Nat) {bg:List UInt8} {a:aB} {r:List UInt8} (h:qp bg a=some r):Spec (aF aH (d+4)) 57 [(kS bg),(.agg (dZ a))] [] (EU bg a r).1 (EU bg a r).2:=by
 unfold qp at h
 exact aZ nB ayV h (.bd λx1 q1=>iN (yj (d+2) q1) <| .br 7 (λ_=>Fn Fo [] none) λ_=>.bd λx2 q2=>Cl [] Fo [] (oF (d+1) q2) <| .bd λx3 q3=>Cl [] Fo [] (Pf (d+0) q3) <| Fn Fo [] none)
end Go.Proofs.YtohoggieaanllaaGreat
