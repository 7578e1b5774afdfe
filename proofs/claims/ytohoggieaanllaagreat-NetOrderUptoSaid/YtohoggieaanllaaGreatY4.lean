import Derived.Test.YtohoggieaanllaaGreatXt
import Derived.Test.YtohoggieaanllaaGreatXs
import Derived.Test.YtohoggieaanllaaGreatY3
set_option linter.all false
set_option maxRecDepth 100000
namespace Go.Proofs.YtohoggieaanllaaGreat
def Kg (aS:av):Option (Bool) :=
 (uT aS.Inc).bind λ(x1:Bool)=>cond (!x1) (some true) (cond (decide (aS.Status < 0)) (some true) (cond (decide (aS.Status > 2)) (some true) ((uT aS.ql).bind λ(x2:Bool)=>cond (!x2) (some true) ((uT aS.Load).bind λ(x3:Bool)=>some (!x3)))))
def QM (aS:av) (r:Bool):AV×WH:=((.bool r),[])
theorem ag0 (d:Nat) {aS:av} {r:Bool} (h:Kg aS=some r):Spec (aB aH (d+2)) 48 [(.agg (zA aS))] [] (QM aS r).1 (QM aS r).2:=by
 unfold Kg at h
 exact aX nB ayl h (.bd λx1 q1=>iA (EI (d+0) q1) <| .br 7 (λ_=>Fn Fo [] none) λ_=>.br 12 (λ_=>Fn Fo [] none) λ_=>.br 17 (λ_=>Fn Fo [] none) λ_=>.bd λx2 q2=>iA (EI (d+0) q2) <| .br 23 (λ_=>Fn Fo [] none) λ_=>.bd λx3 q3=>iA (EI (d+0) q3) <| Fn Fo [] none)
def fD (a0:List av) (s3:Int):List AV×WH:=([(dW a0),(.func 48 []),(.int .i64 (a0.length:Int)),(.int .i64 s3)],[])
def gK (a0:List av):Int⊕Unit→Ex×Fast×WH:=fun
 | .inl e=>(.ret,[(4,(.int .i64 e))],[])
 | .inr e=>((.exit 0),[],[])
abbrev rU (a0:List av):=dx [0,1,7,8] (fD a0) (gK a0)
def cZ (a0:List av) (s3:Int):Option ((Int)⊕(Int⊕Unit)) :=
 cond (decide (s3 < (a0.length:Int))) ((bO a0 s3).bind λ(x4:av)=>(Kg x4).bind λ(x5:Bool)=>cond x5 (some (.inr (.inl s3))) (some (.inl (IntKind.i64.wrap (s3+1))))) (some (.inr (.inr ())))
def h_ (a0:List av) (s3:Int):Option (Int⊕Unit):=bT (cZ a0) KK s3
theorem sK (d:Nat) {a0:List av} {s3:Int} {r:(Int)⊕(Int⊕Unit)} (h:cZ a0 s3=some r):bJ (aU (aB aH (d+2)) KK 19 aiL) 0 (jg [0,1,7,8] (fD a0 s3)) (rU a0 r):=by
 unfold cZ at h
 exact bA nB alK h (.br 9 (λ_=>.bd λx4 q4=>Ix mJ 14 q4 <| .bd λx5 q5=>iA (ag0 (d+0) q5) <| .br 16 (λ_=>E0 [4]) λ_=>E1 [0,1,7,8] [none,none,none,none] [] [.slice none 5 0 0 true,.undef,.undef,.undef]) λ_=>E0 [])
theorem jV (d:Nat) {a0:List av} {s3:Int} {r:Int⊕Unit} (h:h_ a0 s3=some r):bJ (eu (aU (aB aH (d+2)) KK 19 aiL) [0,1,7,8] KK) 0 (jg [0,1,7,8] (fD a0 s3)) (gK a0 r) :=
 bY (st:=fD a0) (fin:=gK a0) (step:=cZ a0) (λe=>by rcases e with e | e<;>(intro h;cases h)) (λs x h=>sK d h) KK s3 r h
def gG (a0:List av):Option (Int) :=
 (h_ a0 0).bind λ(x6:Int⊕Unit)=>cond (jI x6) (some (CV x6)) (some (-1))
def ku (a0:List av) (r:Int):AV×WH:=((.int .i64 r),[])
theorem uU (d:Nat) {a0:List av} {r:Int} (h:gG a0=some r):Spec (aB aH (d+3)) 87 [(dW a0),(.func 48 [])] [] (ku a0 r).1 (ku a0 r).2:=by
 unfold gG at h
 exact aX nB ayS h (.bd λx6 q6=>.ite (λDW=>Lp [none,none,none,none] [] [.slice none 5 0 0 true,.undef,.undef,.undef] (jA (il DW) (jV (d+0) q6)) <| Fn Fo [] none) λDW=>Lp [none,none,none,none] [] [.slice none 5 0 0 true,.undef,.undef,.undef] (jA (zy DW) (jV (d+0) q6)) <| Fn Fo [] none)
def eF (a0:List av):Option (Bool) :=
 (gG a0).bind λ(x1:Int)=>some (decide (x1≥0))
def jH (a0:List av) (r:Bool):AV×WH:=((.bool r),[])
theorem sM (d:Nat) {a0:List av} {r:Bool} (h:eF a0=some r):Spec (aB aH (d+4)) 47 [(dW a0),(.func 48 [])] [] (jH a0 r).1 (jH a0 r).2:=by
 unfold eF at h
 exact aX nB ayk h (.bd λx1 q1=>Cb [.slice none 5 0 0 true] (uU (d+0) q1) <| Fn Fo [] none)
abbrev Ua (o:bD):Fast×WH:=([(1,(.ptr (some (0,0))))],[(some (.cells (fQ o) false false))])
def RJ (o:bD):Bool→Ex×Fast×WH:=λe=>(.normal,[(1,(.ptr (some (0,0)))),(3,(.bool e))],[(some (.cells (fQ o) false false))])
def Av (o:bD):Option (Bool) :=
 cond (o.Kind==2) (some true) (some (o.Kind==4))
theorem VA (d:Nat) {o:bD} {r:Bool} (h:Av o=some r):bJ (aU (aB aH (d+0)) KK 53 akj) 0 (Ua o) (RJ o r):=by
 unfold Av at h
 exact bA nB aiM h (.br 7 (λ_=>E0 [1,3]) λ_=>E0 [1,3])
abbrev Ub (o:bD) (x1:Bool):Fast×WH:=([(1,(.ptr (some (0,0)))),(3,(.bool x1))],[(some (.cells (fQ o) false false))])
def RL (o:bD) (x1:Bool):Bool→Ex×Fast×WH:=λe=>(.normal,[(1,(.ptr (some (0,0)))),(3,(.bool x1)),(12,(.bool e))],[(some (.cells (fQ o) false false))])
def Aw (o:bD) (x1:Bool):Option (Bool) :=
 cond (decide (o.Kind < 1)) (some true) (some (decide (o.Kind > 4)))
theorem VB (d:Nat) {o:bD} {x1:Bool} {r:Bool} (h:Aw o x1=some r):bJ (aU (aB aH (d+0)) KK 53 WQ) 0 (Ub o x1) (RL o x1 r):=by
 unfold Aw at h
 exact bA nB Zy h (.br 16 (λ_=>E0 [1,3,12]) λ_=>E0 [1,3,12])
abbrev Uc (o:bD) (x1:Bool):Fast×WH:=([(1,(.ptr (some (0,0)))),(3,(.bool x1))],[(some (.cells (fQ o) false false))])
def RN (o:bD) (x1:Bool):Bool→Ex×Fast×WH:=λe=>(.normal,[(1,(.ptr (some (0,0)))),(3,(.bool x1)),(12,(.bool e))],[(some (.cells (fQ o) false false))])
def Ay (o:bD) (x1:Bool):Option (Bool) :=
 (Aw o x1).bind λ(x2:Bool)=>cond x2 (some true) (cond (o.Key==([]:List UInt8)) (some true) (some (decide ((o.Key.length:Int) > 8))))
theorem VD (d:Nat) {o:bD} {x1:Bool} {r:Bool} (h:Ay o x1=some r):bJ (aU (aB aH (d+0)) KK 53 Zx) 0 (Uc o x1) (RN o x1 r):=by
 unfold Ay at h
 exact bA nB abj h (.bd λx2 q2=>Jn [1,3] [none,none] [] [] (VB (d+0) q2) <| .br 12 (λ_=>E0 [1,3,12]) λ_=>.br 12 (λ_=>E0 [1,3,12]) λ_=>E0 [1,3,12])
abbrev Ud (o:bD) (x1:Bool):Fast×WH:=([(1,(.ptr (some (0,0)))),(3,(.bool x1))],[(some (.cells (fQ o) false false))])
def RO (o:bD) (x1:Bool):Unit⊕Unit→Ex×Fast×WH:=fun
 | .inl e=>(.ret,[(2,(.bool false))],[])
 | .inr e=>(.normal,[(1,(.ptr (some (0,0)))),(3,(.bool x1))],[(some (.cells (fQ o) false false))])
def Az (o:bD) (x1:Bool):Option (Unit⊕Unit) :=
 (Ay o x1).bind λ(x3:Bool)=>cond x3 (some (.inl ())) (cond (decide ((o.Value.length:Int) > 16)) (some (.inl ())) (cond (decide ((o.Old.length:Int) > 16)) (some (.inl ())) (some (.inr ()))))
theorem Kh (d:Nat) {o:bD} {x1:Bool} {r:Unit⊕Unit} (h:Az o x1=some r):bJ (aU (aB aH (d+0)) KK 53 af4) 0 (Ud o x1) (RO o x1 r):=by
 unfold Az at h
 exact bA nB af5 h (.bd λx3 q3=>Jn [1,3] [none,none] [] [] (VD (d+0) q3) <| .br 12 (λ_=>E0 [2]) λ_=>.br 28 (λ_=>E0 [2]) λ_=>.br 28 (λ_=>E0 [2]) λ_=>E0 [1,3])
def zJ (o:bD):Option (Bool) :=
 (Av o).bind λ(x1:Bool)=>(Az o x1).bind λ(x4:Unit⊕Unit)=>cond (jI x4) (some false) (cond x1 (cond (o.Kind==4) (some true) (some (o.Old==([]:List UInt8)))) (cond (o.Value==([]:List UInt8)) (cond (o.Kind==4) (some true) (some (o.Old==([]:List UInt8)))) (some false)))
def Mc (o:bD) (r:Bool):AV×WH:=((.bool r),[])
theorem QN (d:Nat) {o:bD} {r:Bool} (h:zJ o=some r):Spec (aB aH (d+1)) 88 [(.agg (fQ o))] [] (Mc o r).1 (Mc o r).2:=by
 unfold zJ at h
 exact aX nB ayT h (.sk <| .bd λx1 q1=>Jn [1] [none] [] [] (VA (d+0) q1) <| .bd λx4 q4=>.ite (λhb5=>Jn [1,3] [none,none] [] [] (jA (il hb5) (Kh (d+0) q4)) <| Fn Fo [] none) λhb5=>Jn [1,3] [none,none] [] [] (jA (zy hb5) (Kh (d+0) q4)) <| .br 38 (λ_=>.br 47 (λ_=>Fn Fo [] none) λ_=>Fn Fo [] none) λ_=>.br 43 (λ_=>.br 47 (λ_=>Fn Fo [] none) λ_=>Fn Fo [] none) λ_=>Fn Fo [] none)
def nC (p_r:bn):Option (Bool) :=
 cond (p_r.Client==0&&(p_r.Seq==0&&(p_r.Op.Kind==0&&(p_r.Op.Key==([]:List UInt8)&&(p_r.Op.Value==([]:List UInt8)&&(p_r.Op.Old==([]:List UInt8)&&true)))))) (some true) (cond (decide (p_r.Client≥0)) (cond (decide (p_r.Client < 4)) (cond (decide (p_r.Seq≥1)) (cond (decide (p_r.Seq≤4611686018427387903)) ((zJ p_r.Op).bind λ(x1:Bool)=>some x1) (some false)) (some false)) (some false)) (some false))
def F3 (p_r:bn) (r:Bool):AV×WH:=((.bool r),[])
theorem BZ (d:Nat) {p_r:bn} {r:Bool} (h:nC p_r=some r):Spec (aB aH (d+2)) 49 [(.agg (sO p_r))] [] (F3 p_r r).1 (F3 p_r r).2:=by
 unfold nC at h
 exact aX nB aym h (.br 5 (λ_=>Fn Fo [] none) λ_=>.br 9 (λ_=>.br 14 (λ_=>.br 19 (λ_=>.br 24 (λ_=>.bd λx1 q1=>iA (QN (d+0) q1) <| Fn Fo [] none) λ_=>Fn Fo [] none) λ_=>Fn Fo [] none) λ_=>Fn Fo [] none) λ_=>Fn Fo [] none)
def jL (a:aD):Option (Bool) :=
 cond (decide (a.Why≥0)) (cond (decide (a.Why≤11)) (some (decide ((a.Value.length:Int)≤16))) (some false)) (some false)
def Bw (a:aD) (r:Bool):AV×WH:=((.bool r),[])
theorem xE (d:Nat) {a:aD} {r:Bool} (h:jL a=some r):Spec (aB aH (d+1)) 50 [(.agg (dQ a))] [] (Bw a r).1 (Bw a r).2:=by
 unfold jL at h
 exact aX nB ayn h (.br 6 (λ_=>.br 11 (λ_=>Fn Fo [] none) λ_=>Fn Fo [] none) λ_=>Fn Fo [] none)
def F4 (aS:aA):Option (Bool) :=
 cond (aS.eY==0) (cond (aS.Epoch==0) (cond ((aS.Pairs.length:Int)==0) (some ((aS.dX.length:Int)==0)) (some false)) (some false)) (some false)
def Ou (aS:aA) (r:Bool):AV×WH:=((.bool r),[])
theorem aeE (d:Nat) {aS:aA} {r:Bool} (h:F4 aS=some r):Spec (aB aH (d+1)) 89 [(.agg (bI aS))] [] (Ou aS r).1 (Ou aS r).2:=by
 unfold F4 at h
 exact aX nB ayU h (.br 6 (λ_=>.br 11 (λ_=>.br 17 (λ_=>Fn Fo [] none) λ_=>Fn Fo [] none) λ_=>Fn Fo [] none) λ_=>Fn Fo [] none)
def cmp_isNaN_string (a0:List UInt8):Option (Bool) :=
 some (!(a0==a0))
def Dk (a0:List UInt8) (r:Bool):AV×WH:=((.bool r),[])
theorem F5 (d:Nat) {a0:List UInt8} {r:Bool} (h:cmp_isNaN_string a0=some r):Spec (aB aH (d+1)) 154 [(.str a0)] [] (Dk a0 r).1 (Dk a0 r).2:=by
 unfold cmp_isNaN_string at h
 exact aX nB axu h (Fn Fo [] none)
def rV (a0:List UInt8) (a1:List UInt8):Option (Int) :=
 (cmp_isNaN_string a0).bind λ(x1:Bool)=>(cmp_isNaN_string a1).bind λ(x2:Bool)=>cond x1 (cond x2 (some 0) (some (-1))) (cond x2 (some 1) (cond (Op.bytesLess a0 a1) (some (-1)) (cond (!(Op.bytesLess a0 a1 || a0==a1)) (some 1) (some 0))))
def AA (a0:List UInt8) (a1:List UInt8) (r:Int):AV×WH:=((.int .i64 r),[])
theorem Ov (d:Nat) {a0:List UInt8} {a1:List UInt8} {r:Int} (h:rV a0 a1=some r):Spec (aB aH (d+2)) 151 [(.str a0),(.str a1)] [] (AA a0 a1 r).1 (AA a0 a1 r).2:=by
 unfold rV at h
 exact aX nB axr h (.bd λx1 q1=>iA (F5 (d+0) q1) <| .bd λx2 q2=>iA (F5 (d+0) q2) <| .br 11 (λ_=>.br 12 (λ_=>Fn Fo [] none) λ_=>Fn Fo [] none) λ_=>.br 13 (λ_=>Fn Fo [] none) λ_=>.br 16 (λ_=>Fn Fo [] none) λ_=>.br 19 (λ_=>Fn Fo [] none) λ_=>Fn Fo [] none)
def kH (p:au) (key:List UInt8):Option (Int) :=
 (rV p.Key key).bind λ(x1:Int)=>some x1
def AB (p:au) (key:List UInt8) (r:Int):AV×WH:=((.int .i64 r),[])
theorem Dl (d:Nat) {p:au} {key:List UInt8} {r:Int} (h:kH p key=some r):Spec (aB aH (d+3)) 150 [(.agg (rJ p)),(.str key)] [] (AB p key r).1 (AB p key r).2:=by
 unfold kH at h
 exact aX nB axq h (.bd λx1 q1=>iA (Ov (d+0) q1) <| Fn Fo [] none)
def dN (a0:List au) (a1:List UInt8) (s3:Int×Int):List AV×WH:=([(bQ a0),(.str a1),(.func 150 []),(.int .i64 (a0.length:Int)),(.int .i64 s3.1),(.int .i64 s3.2)],[])
def fq (a0:List au) (a1:List UInt8):Int→Ex×Fast×WH:=λe=>((.exit 0),[(0,(bQ a0)),(1,(.str a1)),(2,(.func 150 [])),(8,(.int .i64 (a0.length:Int))),(9,(.int .i64 e))],[])
abbrev lU (a0:List au) (a1:List UInt8):=dx [0,1,2,8,9,10] (dN a0 a1) (fq a0 a1)
def dw (a0:List au) (a1:List UInt8) (s3:Int×Int):Option ((Int×Int)⊕(Int)) :=
 cond (decide (s3.1 < s3.2)) ((bO a0 (IntKind.i64.wrap (aa6 .u64 (IntKind.u64.wrap (IntKind.i64.wrap (s3.1+s3.2))) 1))).bind λ(x4:au)=>(kH x4 a1).bind λ(x5:Int)=>cond (decide (x5 < 0)) (some (.inl ((IntKind.i64.wrap ((IntKind.i64.wrap (aa6 .u64 (IntKind.u64.wrap (IntKind.i64.wrap (s3.1+s3.2))) 1))+1)),s3.2))) (some (.inl (s3.1,(IntKind.i64.wrap (aa6 .u64 (IntKind.u64.wrap (IntKind.i64.wrap (s3.1+s3.2))) 1)))))) (some (.inr s3.1))
def fH (a0:List au) (a1:List UInt8) (s3:Int×Int):Option (Int):=bT (dw a0 a1) KK s3
theorem l7 (d:Nat) {a0:List au} {a1:List UInt8} {s3:Int×Int} {r:(Int×Int)⊕(Int)} (h:dw a0 a1 s3=some r):bJ (aU (aB aH (d+3)) KK 49 aem) 0 (jg [0,1,2,8,9,10] (dN a0 a1 s3)) (lU a0 a1 r):=by
 unfold dw at h
 exact bA nB ai9 h (.br 17 (λ_=>.bd λx4 q4=>Ix aQ 27 q4 <| .bd λx5 q5=>iA (Dl (d+0) q5) <| .br 31 (λ_=>E1 [0,1,2,8,9,10] [none,none,none,none,none,none] [] [.slice none 2 0 0 true,.undef,.undef,.undef,.undef,.undef]) λ_=>E1 [0,1,2,8,9,10] [none,none,none,none,none,none] [] [.slice none 2 0 0 true,.undef,.undef,.undef,.undef,.undef]) λ_=>E1 [0,1,2,8,9] [none,none,none,none,none] [] [.slice none 2 0 0 true,.undef,.undef,.undef,.undef])
theorem l9 (d:Nat) {a0:List au} {a1:List UInt8} {s3:Int×Int} {r:Int} (h:fH a0 a1 s3=some r):bJ (eu (aU (aB aH (d+3)) KK 49 aem) [0,1,2,8,9,10] KK) 0 (jg [0,1,2,8,9,10] (dN a0 a1 s3)) (fq a0 a1 r) :=
 bY (st:=dN a0 a1) (fin:=fq a0 a1) (step:=dw a0 a1) (λe=>by (intro h;cases h)) (λs x h=>l7 d h) KK s3 r h
def dH (a0:List au) (a1:List UInt8):Option (Int×Bool) :=
 (fH a0 a1 (0,(a0.length:Int))).bind λ(x6:Int)=>cond (decide (x6 < (a0.length:Int))) ((bO a0 x6).bind λ(x7:au)=>(kH x7 a1).bind λ(x8:Int)=>some (x6,(x8==0))) (some (x6,false))
def gY (a0:List au) (a1:List UInt8) (r:Int×Bool):AV×WH:=((.tuple [(.int .i64 r.1),(.bool r.2)]),[])
theorem nD (d:Nat) {a0:List au} {a1:List UInt8} {r:Int×Bool} (h:dH a0 a1=some r):Spec (aB aH (d+4)) 149 [(bQ a0),(.str a1),(.func 150 [])] [] (gY a0 a1 r).1 (gY a0 a1 r).2:=by
 unfold dH at h
 exact aX nB axp h (.bd λx6 q6=>Lp [none,none,none,none,none,none] [] [.slice none 2 0 0 true,.undef,.undef,.undef,.undef,.undef] (l9 (d+0) q6) <| .br 39 (λ_=>.bd λx7 q7=>Ix aQ 43 q7 <| .bd λx8 q8=>iA (Dl (d+0) q8) <| Fn Fo [] none) λ_=>Fn Fo [] none)
def lM (k:Int) (value:List UInt8) (aM:List au):Option (List au) :=
 gd (dh 32 aM.length) ((bO aM k).bind λ(x2:au)=>some (aM.set k.toNat (⟨x2.Key,value⟩:au)))
def iX (k:Int) (value:List UInt8) (aM:List au) (r:List au):AV×WH:=((.tuple []),[(some (.cells [(.acc 2 0 2 r.length true)] false false)),(some (.cells (aC aM) false true)),(some (.cells (aC r) false true))])
theorem Er (d:Nat) {k:Int} {value:List UInt8} {aM:List au} {r:List au} (h:lM k value aM=some r):Spec (aB aH (d+2)) 152 [(.ptr (some (0,0))),(.int .i64 k),(.str value)] [(some (.cells [(.acc 1 0 2 aM.length true)] false false)),(some (.cells (aC aM) false true))] (iX k value aM r).1 (iX k value aM r).2:=by
 unfold lM at h
 exact aX (Hz _) axt h (.gd λq1=>.ob q1 <| .st none <| .bd λx2 q2=>Ia aQ 20 2 q2 <| .st (some (aC (aM.set k.toNat (⟨x2.Key,value⟩:au)))) <| .ob (DT (o:=1) aQ q2 rfl:U2 (aC aM) (0+k.toNat * 2+1) [(.str value)]=some (aC (aM.set k.toNat (⟨x2.Key,value⟩:au)))) <| .xP (.fin (some false) [] none) _ (λr=>@Eq AV (.tuple []) (iX k value aM r).1∧@Eq WH [(some (.cells [(.acc 2 0 2 aM.length true)] false false)),(some (.cells (aC aM) false true)),(some (.cells (aC (aM.set k.toNat (⟨x2.Key,value⟩:au))) false true))] (iX k value aM r).2) (by show _∧_;(try rw [show AV.list 2 aM.length (aC (aM.set k.toNat (⟨x2.Key,value⟩:au))) false=bQ (aM.set k.toNat (⟨x2.Key,value⟩:au)) from by simp only [bQ,List.length_set]]);refine ⟨?_, ?_⟩<;>first | rfl | (simp only [iX,List.length_set,List.length_append,List.length_replicate,List.length_cons,List.length_nil,List.length_take,List.length_drop,Nat.add_zero,Nat.zero_add];done) | simp [iX]))
def tX (o:bD) (k:Int) (aM:List au):Option (aD×List au) :=
 (bO aM k).bind λ(x1:au)=>cond (!(x1.Value==o.Old)) (some ((⟨6,x1.Value⟩:aD),aM)) ((lM k o.Value aM).bind λ(x2:List au)=>some ((⟨0,([]:List UInt8)⟩:aD),x2))
def Bz (o:bD) (k:Int) (aM:List au) (r:aD×List au):AV×WH:=((.agg (dQ r.1)),[(some (.cells [(.acc 2 0 2 r.2.length true)] false false)),none,(some (.cells (aC r.2) false true))])
theorem Qa (d:Nat) {o:bD} {k:Int} {aM:List au} {r:aD×List au} (h:tX o k aM=some r):Spec (aB aH (d+3)) 147 [(.ptr (some (0,0))),(.agg (fQ o)),(.int .i64 k)] [(some (.cells [(.acc 1 0 2 aM.length true)] false false)),(some (.cells (aC aM) false true))] (Bz o k aM r).1 (Bz o k aM r).2:=by
 unfold tX at h
 exact aX nB axo h (.bd λx1 q1=>Ia aQ 13 1 q1 <| Ld aQ 15 false 1 1 q1 (.str x1.Value) rfl <| .br 19 (λ_=>.st none <| Fn Fo [] Tw) λ_=>.bd λx2 q2=>Cl0 (Er (d+0) q2) <| .st none <| .kl [1] <| Fn Fo [] Tw)
def rW (key:List UInt8) (aM:List au):Option (Int×Bool) :=
 (dH aM key).bind λ(x1:Int×Bool)=>some (x1.1,x1.2)
def AJ (key:List UInt8) (aM:List au) (r:Int×Bool):AV×WH:=((.tuple [(.int .i64 r.1),(.bool r.2)]),[(some (.cells [(.acc 1 0 2 aM.length true)] false false)),(some (.cells (aC aM) false true))])
theorem Ow (d:Nat) {key:List UInt8} {aM:List au} {r:Int×Bool} (h:rW key aM=some r):Spec (aB aH (d+5)) 145 [(.ptr (some (0,0))),(.str key)] [(some (.cells [(.acc 1 0 2 aM.length true)] false false)),(some (.cells (aC aM) false true))] (AJ key aM r).1 (AJ key aM r).2:=by
 unfold rW at h
 exact aX nB axl h (.bd λx1 q1=>Cb [.slice none 2 0 0 true] (nD (d+0) q1) <| Fn Fo [] none)
def tY (o:bD) (k:Int) (had:Bool) (aM:List au):Option (aD×List au) :=
 cond had ((lM k o.Value aM).bind λ(x1:List au)=>some ((⟨0,([]:List UInt8)⟩:aD),x1)) (cond ((aM.length:Int)==8) (some ((⟨5,([]:List UInt8)⟩:aD),aM)) (gd (dh 32 aM.length) (gd (ah0 32 k aM.length) (some ((⟨0,([]:List UInt8)⟩:aD),(MK aM k (⟨o.Key,o.Value⟩:au)))))))
def BA (o:bD) (k:Int) (had:Bool) (aM:List au) (r:aD×List au):AV×WH:=((.agg (dQ r.1)),[(some (.cells [(.acc 2 0 2 r.2.length true)] false false)),none,(some (.cells (aC r.2) false true))])
theorem Qb (d:Nat) {o:bD} {k:Int} {had:Bool} {aM:List au} {r:aD×List au} (h:tY o k had aM=some r):Spec (aB aH (d+3)) 146 [(.ptr (some (0,0))),(.agg (fQ o)),(.int .i64 k),(.bool had)] [(some (.cells [(.acc 1 0 2 aM.length true)] false false)),(some (.cells (aC aM) false true))] (BA o k had aM r).1 (BA o k had aM r).2:=by
 unfold tY at h
 exact aX (Hz _) axn h (.br 25 (λ_=>.bd λx1 q1=>Cl0 (Er (d+0) q1) <| .st none <| .kl [1] <| Fn Fo [] Tw) λ_=>.br 32 (λ_=>.st none <| Fn Fo [] Tw) λ_=>.gd λq2=>.ob q2 <| .gd λq3=>.ob (ana q3:(0≤k∧k≤((aM.length:Nat):Int))) <| .ap 22 (MK aM k (⟨o.Key,o.Value⟩:au)).length (aC (MK aM k (⟨o.Key,o.Value⟩:au))) <| .ob (anb (l:=aM) q3:aM.length+1=(MK aM k (⟨o.Key,o.Value⟩:au)).length) <| .ob (aru aQ rfl:(aC aM).take (k.toNat * 2)++([(.str o.Key),(.str o.Value)]++(aC aM).drop (k.toNat * 2))=aC (MK aM k (⟨o.Key,o.Value⟩:au))) <| .ob (avC (l:=aM) q3:dh 32 (MK aM k (⟨o.Key,o.Value⟩:au)).length=true) <| .st none <| .st none <| .kl [1] <| Fn Fo [] Tw)
def qN (o:bD) (aM:List au):Option (aD×List au) :=
 (zJ o).bind λ(x1:Bool)=>cond (!x1) (some ((⟨1,([]:List UInt8)⟩:aD),aM)) ((rW o.Key aM).bind λ(x2:Int×Bool)=>cond (o.Kind==2) ((tY o x2.1 x2.2 aM).bind λ(x3:aD×List au)=>some (x3.1,x3.2)) (cond (!x2.2) (some ((⟨4,([]:List UInt8)⟩:aD),aM)) (cond (o.Kind==1) ((bO aM x2.1).bind λ(x4:au)=>some ((⟨0,x4.Value⟩:aD),aM)) (cond (o.Kind==4) ((tX o x2.1 aM).bind λ(x5:aD×List au)=>some (x5.1,x5.2)) (gd (dh 32 aM.length) (gd (akY x2.1 (IntKind.i64.wrap (x2.1+1)) aM.length) (some ((⟨0,([]:List UInt8)⟩:aD),(GD aM x2.1 (IntKind.i64.wrap (x2.1+1)))))))))))
def Dm (o:bD) (aM:List au) (r:aD×List au):AV×WH:=((.agg (dQ r.1)),[(some (.cells [(.acc 2 0 2 r.2.length true)] false false)),none,(some (.cells (aC r.2) false true))])
theorem RP (d:Nat) {o:bD} {aM:List au} {r:aD×List au} (h:qN o aM=some r):Spec (aB aH (d+6)) 141 [(.ptr (some (0,0))),(.agg (fQ o))] [(some (.cells [(.acc 1 0 2 aM.length true)] false false)),(some (.cells (aC aM) false true))] (Dm o aM r).1 (Dm o aM r).2:=by
 unfold qN at h
 exact aX (Hz _) axh h (.bd λx1 q1=>iA (QN (d+4) q1) <| .br 9 (λ_=>.st none <| Fn Fo [] Tw) λ_=>.bd λx2 q2=>Cl0 (Ow (d+0) q2) <| .br 18 (λ_=>.bd λx3 q3=>Cl0 (Qb (d+2) q3) <| .st none <| Fn Fo [] Tw) λ_=>.br 27 (λ_=>.st none <| Fn Fo [] Tw) λ_=>.br 31 (λ_=>.bd λx4 q4=>Ia aQ 40 1 q4 <| Ld aQ 42 false 1 1 q4 (.str x4.Value) rfl <| .st none <| Fn Fo [] Tw) λ_=>.br 44 (λ_=>.bd λx5 q5=>Cl0 (Qa (d+2) q5) <| .st none <| Fn Fo [] Tw) λ_=>.gd λq6=>.ob q6 <| .gd λq7=>.ob (ah1 q7:(0≤x2.1∧x2.1 < (IntKind.i64.wrap (x2.1+1))∧(IntKind.i64.wrap (x2.1+1))≤((aM.length:Nat):Int))) <| .ap 61 (GD aM x2.1 (IntKind.i64.wrap (x2.1+1))).length (aC (GD aM x2.1 (IntKind.i64.wrap (x2.1+1)))) <| .ob (ane (l:=aM) q7:aM.length - ((IntKind.i64.wrap (x2.1+1)).toNat - x2.1.toNat)=(GD aM x2.1 (IntKind.i64.wrap (x2.1+1))).length) <| .ob (aj6 aQ:(aC aM).take (x2.1.toNat * 2)++(aC aM).drop ((IntKind.i64.wrap (x2.1+1)).toNat * 2)=aC (GD aM x2.1 (IntKind.i64.wrap (x2.1+1)))) <| .st none <| .st none <| .kl [1] <| Fn Fo [] Tw)
def AL (p:List au) (s5:Int×List au):List AV×WH:=([(.ptr (some (0,0))),(.ptr (some (1,0))),(bQ p),(.int .i64 (p.length:Int)),(.int .i64 s5.1)],[(some (.cells [(.acc 2 0 2 0 true)] false false)),(some (.cells [(.acc 3 0 2 s5.2.length true)] false false)),(some (.cells (aC []) false true)),(some (.cells (aC s5.2) false true))])
def D9 (p:List au):(List au)→Ex×Fast×WH:=λe=>((.exit 0),[(2,(.ptr (some (0,0)))),(3,(.ptr (some (1,0))))],[(some (.cells [(.acc 2 0 2 0 true)] false false)),(some (.cells [(.acc 3 0 2 e.length true)] false false)),(some (.cells (aC []) false true)),(some (.cells (aC e) false true))])
abbrev aaf (p:List au):=dx [2,3,6,7,8] (AL p) (D9 p)
def sQ (p:List au) (s5:Int×List au):Option ((Int×List au)⊕((List au))) :=
 cond (decide (s5.1 < (p.length:Int))) ((bO p s5.1).bind λ(x6:au)=>(qN (⟨2,x6.Key,x6.Value,([]:List UInt8)⟩:bD) s5.2).bind λ(x7:aD×List au)=>some (.inl ((IntKind.i64.wrap (s5.1+1)),x7.2))) (some (.inr s5.2))
def Ox (p:List au) (s5:Int×List au):Option ((List au)):=bT (sQ p) KK s5
theorem abG (d:Nat) {p:List au} {s5:Int×List au} {r:(Int×List au)⊕((List au))} (h:sQ p s5=some r):bJ (aU (aB aH (d+6)) KK 20 aeh) 0 (jg [2,3,6,7,8] (AL p s5)) (aaf p r):=by
 unfold sQ at h
 exact bA nB ai4 h (.br 9 (λ_=>.bd λx6 q6=>Ix aQ 10 q6 <| .st none <| .bd λx7 q7=>Cl0 (RP (d+0) q7) <| E1 [2,3,6,7,8] [none,none,none,none,none] [] [.undef,.undef,.slice none 2 0 0 true,.undef,.undef]) λ_=>E0 [2,3])
theorem abH (d:Nat) {p:List au} {s5:Int×List au} {r:(List au)} (h:Ox p s5=some r):bJ (eu (aU (aB aH (d+6)) KK 20 aeh) [2,3,6,7,8] KK) 0 (jg [2,3,6,7,8] (AL p s5)) (D9 p r) :=
 bY (st:=AL p) (fin:=D9 p) (step:=sQ p) (λe=>by (intro h;cases h)) (λs x h=>abG d h) KK s5 r h
def Oy (p:List au):Option (qY) :=
 (Ox p (0,[])).bind λ(x8:(List au))=>some (⟨x8⟩:qY)
def Ue (p:List au) (r:qY):AV×WH:=((.agg (aa9 r)),[])
theorem aji (d:Nat) {p:List au} {r:qY} (h:Oy p=some r):Spec (aB aH (d+7)) 135 [(bQ p)] [] (Ue p r).1 (Ue p r).2:=by
 unfold Oy at h
 exact aX nB axc h (.z 2 [.slice none 2 0 0 true] <| .z 3 [.slice none 2 0 0 true] <| .bd λx8 q8=>Lp [none,none,none,none,none] [Tw,Tw,Tw,Tw] [.undef,.undef,.slice none 2 0 0 true,.undef,.undef] (abH (d+0) q8) <| .st none <| Fn Fo [.agg [.slice none 2 0 0 true]] none)
abbrev EJ (aS:ak) (dL:aW):Fast×WH:=([(0,(.ptr (some (0,0)))),(3,(.ptr (some (1,0))))],[(some (.cells (dO dL) false false)),(some (.cells (bM aS) false false))])
def D_ (aS:ak) (dL:aW):Unit⊕Unit→Ex×Fast×WH:=fun
 | .inl e=>(.ret,[(4,(.bool false))],[(some (.cells (dO dL) false false))])
 | .inr e=>(.normal,[(0,(.ptr (some (0,0)))),(3,(.ptr (some (1,0))))],[(some (.cells (dO dL) false false)),(some (.cells (bM aS) false false))])
def eH (aS:ak) (dL:aW):Option (Unit⊕Unit) :=
 cond (decide (aS.Client < 0)) (some (.inl ())) (cond (decide (aS.Client≥4)) (some (.inl ())) (cond (decide (aS.Seq < 1)) (some (.inl ())) ((bO (dL.l.Rn) aS.Client).bind λ(x1:ak)=>cond (decide (aS.Seq≤x1.Seq)) (some (.inl ())) (some (.inr ())))))
theorem uV (d:Nat) {aS:ak} {dL:aW} {r:Unit⊕Unit} (h:eH aS dL=some r):bJ (aU (aB aH (d+0)) KK 38 agz) 1 (EJ aS dL) (D_ aS dL r):=by
 unfold eH at h
 exact bA nB agA h (.br 8 (λ_=>E0 [4]) λ_=>.br 13 (λ_=>E0 [4]) λ_=>.br 18 (λ_=>E0 [4]) λ_=>.bd λx1 q1=>.v 26 (.ptr (some (0,0+aS.Client.toNat * 4))) <| .ob (anf q1 rfl:wP (.xA 4 4 (.c (.ptr (some (0,0)))) (.c (.int .i64 aS.Client)))=some (.ptr (some (0,0+aS.Client.toNat * 4)))) <| .v 28 (.int .i64 x1.Seq) <| .ob (avD (p:=0) (o:=1) bS q1 rfl rfl:Bv false (0+aS.Client.toNat * 4+1) 1 (dO dL)=some (.int .i64 x1.Seq)) <| .br 30 (λ_=>E0 [4]) λ_=>E0 [0,3])
def dK (aS:ak) (dL:aW):Option (Bool×aW) :=
 (eH aS dL).bind λ(x2:Unit⊕Unit)=>cond (jI x2) (some (false,dL)) ((bO (dL.l.Rn) aS.Client).bind λ(x4:ak)=>some (true,(⟨(dL.l.set aS.Client aS)⟩:aW)))
def xk (aS:ak) (dL:aW) (r:Bool×aW):AV×WH:=((.bool r.1),[(some (.cells (dO r.2) false false))])
theorem Ki (d:Nat) {aS:ak} {dL:aW} {r:Bool×aW} (h:dK aS dL=some r):Spec (aB aH (d+1)) 142 [(.ptr (some (0,0))),(.agg (bM aS))] [(some (.cells (dO dL) false false))] (xk aS dL r).1 (xk aS dL r).2:=by
 unfold dK at h
 exact aX nB axi h (.sk <| .bd λx2 q2=>.ite (λhb3=>Jn [0,3] [none,none] [] [] (jA (il hb3) (uV (d+0) q2)) <| Fn Fo [] none) λhb3=>Jn [0,3] [none,none] [] [] (jA (zy hb3) (uV (d+0) q2)) <| .bd λx4 q4=>.v 37 (.ptr (some (0,0+aS.Client.toNat * 4))) <| .ob (anf q4 rfl:wP (.xA 4 4 (.c (.ptr (some (0,0)))) (.c (.int .i64 aS.Client)))=some (.ptr (some (0,0+aS.Client.toNat * 4)))) <| .st (some (dO (⟨(dL.l.set aS.Client aS)⟩:aW))) <| .ob (avE (p:=0) (o:=0) bS q4 (A4.arw _ q4) rfl (Nat.le_of_ble_eq_true rfl) rfl rfl:U2 (dO dL) (0+aS.Client.toNat * 4) [(.int .i64 aS.Client),(.int .i64 aS.Seq),(.int .i64 aS.Answer.Why),(.str aS.Answer.Value)]=some (dO (⟨(dL.l.set aS.Client aS)⟩:aW))) <| Fn Fo [] none)
def qC (l:List ak) (s3:Int×aW):List AV×WH:=([(.ptr (some (0,0))),(.ptr (some (1,0))),(dD l),(.int .i64 (l.length:Int)),(.int .i64 s3.1)],[(some (.cells (dO (⟨(⟨(⟨0,0,(⟨0,([]:List UInt8)⟩:aD)⟩:ak),(⟨0,0,(⟨0,([]:List UInt8)⟩:aD)⟩:ak),(⟨0,0,(⟨0,([]:List UInt8)⟩:aD)⟩:ak),(⟨0,0,(⟨0,([]:List UInt8)⟩:aD)⟩:ak)⟩:A4 ak)⟩:aW)) false false)),(some (.cells (dO s3.2) false false))])
def uW (l:List ak):aW→Ex×Fast×WH:=λe=>((.exit 0),[(2,(.ptr (some (0,0)))),(3,(.ptr (some (1,0))))],[(some (.cells (dO (⟨(⟨(⟨0,0,(⟨0,([]:List UInt8)⟩:aD)⟩:ak),(⟨0,0,(⟨0,([]:List UInt8)⟩:aD)⟩:ak),(⟨0,0,(⟨0,([]:List UInt8)⟩:aD)⟩:ak),(⟨0,0,(⟨0,([]:List UInt8)⟩:aD)⟩:ak)⟩:A4 ak)⟩:aW)) false false)),(some (.cells (dO e) false false))])
abbrev Qc (l:List ak):=dx [2,3,6,7,8] (qC l) (uW l)
def iB (l:List ak) (s3:Int×aW):Option ((Int×aW)⊕(aW)) :=
 cond (decide (s3.1 < (l.length:Int))) ((bO l s3.1).bind λ(x4:ak)=>(dK x4 s3.2).bind λ(x5:Bool×aW)=>some (.inl ((IntKind.i64.wrap (s3.1+1)),x5.2))) (some (.inr s3.2))
def wH (l:List ak) (s3:Int×aW):Option (aW):=bT (iB l) KK s3
theorem RQ (d:Nat) {l:List ak} {s3:Int×aW} {r:(Int×aW)⊕(aW)} (h:iB l s3=some r):bJ (aU (aB aH (d+1)) KK 16 aei) 0 (jg [2,3,6,7,8] (qC l s3)) (Qc l r):=by
 unfold iB at h
 exact bA nB ai5 h (.br 9 (λ_=>.bd λx4 q4=>Ix bS 10 q4 <| .st none <| .bd λx5 q5=>Cl [] Fo [] (Ki (d+0) q5) <| E1 [2,3,6,7,8] [none,none,none,none,none] [] [.undef,.undef,.slice none 4 0 0 true,.undef,.undef]) λ_=>E0 [2,3])
theorem RS (d:Nat) {l:List ak} {s3:Int×aW} {r:aW} (h:wH l s3=some r):bJ (eu (aU (aB aH (d+1)) KK 16 aei) [2,3,6,7,8] KK) 0 (jg [2,3,6,7,8] (qC l s3)) (uW l r) :=
 bY (st:=qC l) (fin:=uW l) (step:=iB l) (λe=>by (intro h;cases h)) (λs x h=>RQ d h) KK s3 r h
def mM (l:List ak):Option (aW) :=
 (wH l (0,(⟨(⟨(⟨0,0,(⟨0,([]:List UInt8)⟩:aD)⟩:ak),(⟨0,0,(⟨0,([]:List UInt8)⟩:aD)⟩:ak),(⟨0,0,(⟨0,([]:List UInt8)⟩:aD)⟩:ak),(⟨0,0,(⟨0,([]:List UInt8)⟩:aD)⟩:ak)⟩:A4 ak)⟩:aW))).bind λ(x6:aW)=>some x6
def Ig (l:List ak) (r:aW):AV×WH:=((.agg (dO r)),[])
theorem XQ (d:Nat) {l:List ak} {r:aW} (h:mM l=some r):Spec (aB aH (d+2)) 136 [(dD l)] [] (Ig l r).1 (Ig l r).2:=by
 unfold mM at h
 exact aX nB axd h (.bd λx6 q6=>Lp [none,none,none,none,none] [] [.undef,.undef,.slice none 4 0 0 true,.undef,.undef] (RS (d+0) q6) <| .st none <| Fn Fo [] none)
def F6 (aS:aA):Option (dF) :=
 (Oy aS.Pairs).bind λ(x1:qY)=>(mM aS.dX).bind λ(x2:aW)=>some (⟨x1,x2,aS.eY,aS.Epoch⟩:dF)
def Uf (aS:aA) (r:dF):AV×WH:=((.agg (mK r)),[])
theorem ajj (d:Nat) {aS:aA} {r:dF} (h:F6 aS=some r):Spec (aB aH (d+8)) 116 [(.agg (bI aS))] [] (Uf aS r).1 (Uf aS r).2:=by
 unfold F6 at h
 exact aX nB awW h (.z 2 [.slice none 2 0 0 true,.undef,.undef,.undef,.undef,.undef,.undef,.undef,.undef,.undef,.undef,.undef,.undef,.undef,.undef,.undef,.undef,.undef,.undef] <| .bd λx1 q1=>Cl [] Fo [.slice none 2 0 0 true] (aji (d+0) q1) <| .er <| .ob (rfl:@Eq (Option AV) (some (dD aS.dX)) (some (dD aS.dX))) <| .bd λx2 q2=>Cb [.slice none 4 0 0 true] (XQ (d+5) q2) <| .st none <| Fn Fo [.agg [.slice none 2 0 0 true,.undef,.undef,.undef,.undef,.undef,.undef,.undef,.undef,.undef,.undef,.undef,.undef,.undef,.undef,.undef,.undef,.undef,.undef]] none)
def pG (t:dF):Option (List au) :=
 gd (dh 32 t.Table.l.length) (some t.Table.l)
def BD (t:dF) (r:List au):AV×WH:=((bQ r),[(some (.cells (mK t) false false))])
theorem Qd (d:Nat) {t:dF} {r:List au} (h:pG t=some r):Spec (aB aH (d+2)) 117 [(.ptr (some (0,0)))] [(some (.cells (mK t) false false))] (BD t r).1 (BD t r).2:=by
 unfold pG at h
 exact aX (Hz _) awX h (.z 2 [.slice none 2 0 0 true] <| .gd λq1=>.ob q1 <| Fn Fo [.slice none 2 0 0 true] none)
def gH (a0:List au) (a1:List au) (s3:Int):List AV×WH:=([(bQ a0),(bQ a1),(.int .i64 (a0.length:Int)),(.int .i64 s3)],[])
def iI (a0:List au) (a1:List au):Unit⊕Unit→Ex×Fast×WH:=fun
 | .inl e=>(.ret,[(4,(.bool false))],[])
 | .inr e=>((.exit 0),[],[])
abbrev xG (a0:List au) (a1:List au):=dx [0,1,12,13] (gH a0 a1) (iI a0 a1)
def fE (a0:List au) (a1:List au) (s3:Int):Option ((Int)⊕(Unit⊕Unit)) :=
 cond (decide (s3 < (a0.length:Int))) ((bO a0 s3).bind λ(x4:au)=>(bO a1 s3).bind λ(x5:au)=>cond (!(x4.Key==x5.Key&&(x4.Value==x5.Value&&true))) (some (.inr (.inl ()))) (some (.inl (IntKind.i64.wrap (s3+1))))) (some (.inr (.inr ())))
def jD (a0:List au) (a1:List au) (s3:Int):Option (Unit⊕Unit):=bT (fE a0 a1) KK s3
theorem yh (d:Nat) {a0:List au} {a1:List au} {s3:Int} {r:(Int)⊕(Unit⊕Unit)} (h:fE a0 a1 s3=some r):bJ (aU (aB aH (d+0)) KK 26 aiT) 0 (jg [0,1,12,13] (gH a0 a1 s3)) (xG a0 a1 r):=by
 unfold fE at h
 exact bA nB alQ h (.br 14 (λ_=>.bd λx4 q4=>Ix aQ 18 q4 <| .bd λx5 q5=>Ix aQ 22 q5 <| .br 24 (λ_=>E0 [4]) λ_=>E1 [0,1,12,13] [none,none,none,none] [] [.slice none 2 0 0 true,.slice none 2 0 0 true,.undef,.undef]) λ_=>E0 [])
theorem mO (d:Nat) {a0:List au} {a1:List au} {s3:Int} {r:Unit⊕Unit} (h:jD a0 a1 s3=some r):bJ (eu (aU (aB aH (d+0)) KK 26 aiT) [0,1,12,13] KK) 0 (jg [0,1,12,13] (gH a0 a1 s3)) (iI a0 a1 r) :=
 bY (st:=gH a0 a1) (fin:=iI a0 a1) (step:=fE a0 a1) (λe=>by rcases e with e | e<;>(intro h;cases h)) (λs x h=>yh d h) KK s3 r h
def fI (a0:List au) (a1:List au):Option (Bool) :=
 cond ((a0.length:Int) != (a1.length:Int)) (some false) ((jD a0 a1 0).bind λ(x6:Unit⊕Unit)=>cond (jI x6) (some false) (some true))
def nE (a0:List au) (a1:List au) (r:Bool):AV×WH:=((.bool r),[])
theorem pI (d:Nat) {a0:List au} {a1:List au} {r:Bool} (h:fI a0 a1=some r):Spec (aB aH (d+1)) 96 [(bQ a0),(bQ a1)] [] (nE a0 a1 r).1 (nE a0 a1 r).2:=by
 unfold fI at h
 exact aX nB ayZ h (.br 10 (λ_=>Fn Fo [] none) λ_=>.bd λx6 q6=>.ite (λDW=>Lp [none,none,none,none] [] [.slice none 2 0 0 true,.slice none 2 0 0 true,.undef,.undef] (jA (il DW) (mO (d+0) q6)) <| Fn Fo [] none) λDW=>Lp [none,none,none,none] [] [.slice none 2 0 0 true,.slice none 2 0 0 true,.undef,.undef] (jA (zy DW) (mO (d+0) q6)) <| Fn Fo [] none)
def jM (dL:dF) (s5:Int×List ak):List AV×WH:=([(.acc 1 0 4 s5.2.length true),(.agg (dO dL.b_)),(.int .i64 s5.1)],[(some (.cells (mK dL) false false)),(some (.cells (aO s5.2) false true))])
def mF (dL:dF):(List ak)→Ex×Fast×WH:=λe=>((.exit 0),[(3,(.acc 1 0 4 e.length true))],[(some (.cells (mK dL) false false)),(some (.cells (aO e) false true))])
abbrev F7 (dL:dF):=dx [3,9,10] (jM dL) (mF dL)
def fT (dL:dF) (s5:Int×List ak):Option ((Int×List ak)⊕((List ak))) :=
 cond (decide (s5.1 < 4)) ((bO ([dL.b_.l.a0,dL.b_.l.a1,dL.b_.l.a2,dL.b_.l.a3]:List ak) s5.1).bind λ(x6:ak)=>cond (decide (x6.Seq > 0)) (gd (dh 40 (s5.2++[x6]).length) (some (.inl ((IntKind.i64.wrap (s5.1+1)),(s5.2++[x6]))))) (some (.inl ((IntKind.i64.wrap (s5.1+1)),s5.2)))) (some (.inr s5.2))
def qO (dL:dF) (s5:Int×List ak):Option ((List ak)):=bT (fT dL) KK s5
theorem GV (d:Nat) {dL:dF} {s5:Int×List ak} {r:(Int×List ak)⊕((List ak))} (h:fT dL s5=some r):bJ (aU (aB aH (d+0)) KK 23 aed) 1 (jg [3,9,10] (jM dL s5)) (F7 dL r):=by
 unfold fT at h
 exact bA nB ai0 h (.br 11 (λ_=>.bd λx6 q6=>.v 12 (.agg (bM x6)) <| .ob (avF bS q6:wP (.index true 4 4 (.c (.agg (aO ([dL.b_.l.a0,dL.b_.l.a1,dL.b_.l.a2,dL.b_.l.a3])))) (.c (.int .i64 s5.1)))=some (.agg (bM x6))) <| .st none <| .br 15 (λ_=>.gd λq7=>Ap bS 19 q7 <| E1 [3,9,10] [none,none,none] [] [.slice none 4 0 0 true,.undef,.undef]) λ_=>E1 [3,9,10] [none,none,none] [] [.slice none 4 0 0 true,.undef,.undef]) λ_=>E1 [3] [none] [] [.slice none 4 0 0 true])
theorem GX (d:Nat) {dL:dF} {s5:Int×List ak} {r:(List ak)} (h:qO dL s5=some r):bJ (eu (aU (aB aH (d+0)) KK 23 aed) [3,9,10] KK) 1 (jg [3,9,10] (jM dL s5)) (mF dL r) :=
 bY (st:=jM dL) (fin:=mF dL) (step:=fT dL) (λe=>by (intro h;cases h)) (λs x h=>GV d h) KK s5 r h
def lu (dL:dF):Option (List ak) :=
 (qO dL (0,[])).bind λ(x8:(List ak))=>some x8
def yj (dL:dF) (r:List ak):AV×WH:=((dD r),[(some (.cells (mK dL) false false))])
theorem K8 (d:Nat) {dL:dF} {r:List ak} (h:lu dL=some r):Spec (aB aH (d+2)) 118 [(.ptr (some (0,1)))] [(some (.cells (mK dL) false false))] (yj dL r).1 (yj dL r).2:=by
 unfold lu at h
 exact aX (Hz _) awY h (.z 2 [.slice none 4 0 0 true] <| .z 3 [.slice none 4 0 0 true] <| .bd λx8 q8=>Lp [Tw,none,none] [] [.slice none 4 0 0 true,.undef,.undef] (GX (d+1) q8) <| Fn Fo [.slice none 4 0 0 true] none)
def gI (a0:List ak) (a1:List ak) (s3:Int):List AV×WH:=([(dD a0),(dD a1),(.int .i64 (a0.length:Int)),(.int .i64 s3)],[])
def iJ (a0:List ak) (a1:List ak):Unit⊕Unit→Ex×Fast×WH:=fun
 | .inl e=>(.ret,[(4,(.bool false))],[])
 | .inr e=>((.exit 0),[],[])
abbrev xH (a0:List ak) (a1:List ak):=dx [0,1,12,13] (gI a0 a1) (iJ a0 a1)
def fF (a0:List ak) (a1:List ak) (s3:Int):Option ((Int)⊕(Unit⊕Unit)) :=
 cond (decide (s3 < (a0.length:Int))) ((bO a0 s3).bind λ(x4:ak)=>(bO a1 s3).bind λ(x5:ak)=>cond (!(x4.Client==x5.Client&&(x4.Seq==x5.Seq&&(x4.Answer.Why==x5.Answer.Why&&(x4.Answer.Value==x5.Answer.Value&&true))))) (some (.inr (.inl ()))) (some (.inl (IntKind.i64.wrap (s3+1))))) (some (.inr (.inr ())))
def jE (a0:List ak) (a1:List ak) (s3:Int):Option (Unit⊕Unit):=bT (fF a0 a1) KK s3
theorem yt (d:Nat) {a0:List ak} {a1:List ak} {s3:Int} {r:(Int)⊕(Unit⊕Unit)} (h:fF a0 a1 s3=some r):bJ (aU (aB aH (d+0)) KK 26 aiU) 0 (jg [0,1,12,13] (gI a0 a1 s3)) (xH a0 a1 r):=by
 unfold fF at h
 exact bA nB alS h (.br 14 (λ_=>.bd λx4 q4=>Ix bS 18 q4 <| .bd λx5 q5=>Ix bS 22 q5 <| .br 24 (λ_=>E0 [4]) λ_=>E1 [0,1,12,13] [none,none,none,none] [] [.slice none 4 0 0 true,.slice none 4 0 0 true,.undef,.undef]) λ_=>E0 [])
theorem mP (d:Nat) {a0:List ak} {a1:List ak} {s3:Int} {r:Unit⊕Unit} (h:jE a0 a1 s3=some r):bJ (eu (aU (aB aH (d+0)) KK 26 aiU) [0,1,12,13] KK) 0 (jg [0,1,12,13] (gI a0 a1 s3)) (iJ a0 a1 r) :=
 bY (st:=gI a0 a1) (fin:=iJ a0 a1) (step:=fF a0 a1) (λe=>by rcases e with e | e<;>(intro h;cases h)) (λs x h=>yt d h) KK s3 r h
def fJ (a0:List ak) (a1:List ak):Option (Bool) :=
 cond ((a0.length:Int) != (a1.length:Int)) (some false) ((jE a0 a1 0).bind λ(x6:Unit⊕Unit)=>cond (jI x6) (some false) (some true))
def nG (a0:List ak) (a1:List ak) (r:Bool):AV×WH:=((.bool r),[])
theorem pJ (d:Nat) {a0:List ak} {a1:List ak} {r:Bool} (h:fJ a0 a1=some r):Spec (aB aH (d+1)) 97 [(dD a0),(dD a1)] [] (nG a0 a1 r).1 (nG a0 a1 r).2:=by
 unfold fJ at h
 exact aX nB ay0 h (.br 10 (λ_=>Fn Fo [] none) λ_=>.bd λx6 q6=>.ite (λDW=>Lp [none,none,none,none] [] [.slice none 4 0 0 true,.slice none 4 0 0 true,.undef,.undef] (jA (il DW) (mP (d+0) q6)) <| Fn Fo [] none) λDW=>Lp [none,none,none,none] [] [.slice none 4 0 0 true,.slice none 4 0 0 true,.undef,.undef] (jA (zy DW) (mP (d+0) q6)) <| Fn Fo [] none)
abbrev Oz (aS:ak):Fast×WH:=([(1,(.ptr (some (0,0)))),(5,(.int .i64 aS.Answer.Why))],[(some (.cells (bM aS) false false))])
def MR (aS:ak):Bool→Ex×Fast×WH:=λe=>(.normal,[(1,(.ptr (some (0,0)))),(6,(.bool e))],[(some (.cells (bM aS) false false))])
def tZ (aS:ak):Option (Bool) :=
 cond (aS.Answer.Why==0) (some true) (cond (aS.Answer.Why==4) (some true) (cond (aS.Answer.Why==5) (some true) (some (aS.Answer.Why==6))))
theorem Qe (d:Nat) {aS:ak} {r:Bool} (h:tZ aS=some r):bJ (aU (aB aH (d+0)) KK 21 WR) 0 (Oz aS) (MR aS r):=by
 unfold tZ at h
 exact bA nB ZC h (.br 6 (λ_=>E0 [1,6]) λ_=>.br 6 (λ_=>E0 [1,6]) λ_=>.br 6 (λ_=>E0 [1,6]) λ_=>E0 [1,6])
def uX (aS:ak):Option (Bool) :=
 (tZ aS).bind λ(x1:Bool)=>cond x1 (cond (decide ((aS.Answer.Value.length:Int)≤16)) (some (decide (aS.Seq≤4611686018427387903))) (some false)) (some false)
def F8 (aS:ak) (r:Bool):AV×WH:=((.bool r),[])
theorem VE (d:Nat) {aS:ak} {r:Bool} (h:uX aS=some r):Spec (aB aH (d+1)) 121 [(.agg (bM aS))] [] (F8 aS r).1 (F8 aS r).2:=by
 unfold uX at h
 exact aX nB aw1 h (.sk <| .sk <| .sk <| .bd λx1 q1=>Jn [1,5] [none,none] [] [] (Qe (d+0) q1) <| .br 6 (λ_=>.br 16 (λ_=>Fn Fo [] none) λ_=>Fn Fo [] none) λ_=>Fn Fo [] none)
def Cz (y:ak):Option (Bool) :=
 (uX y).bind λ(x1:Bool)=>some (!x1)
def Ih (y:ak) (r:Bool):AV×WH:=((.bool r),[])
theorem XR (d:Nat) {y:ak} {r:Bool} (h:Cz y=some r):Spec (aB aH (d+2)) 120 [(.agg (bM y))] [] (Ih y r).1 (Ih y r).2:=by
 unfold Cz at h
 exact aX nB aw0 h (.bd λx1 q1=>iA (VE (d+0) q1) <| Fn Fo [] none)
def fM (a0:List ak) (s3:Int):List AV×WH:=([(dD a0),(.func 120 []),(.int .i64 (a0.length:Int)),(.int .i64 s3)],[])
def gV (a0:List ak):Int⊕Unit→Ex×Fast×WH:=fun
 | .inl e=>(.ret,[(4,(.int .i64 e))],[])
 | .inr e=>((.exit 0),[],[])
abbrev tF (a0:List ak):=dx [0,1,7,8] (fM a0) (gV a0)
def dA (a0:List ak) (s3:Int):Option ((Int)⊕(Int⊕Unit)) :=
 cond (decide (s3 < (a0.length:Int))) ((bO a0 s3).bind λ(x4:ak)=>(Cz x4).bind λ(x5:Bool)=>cond x5 (some (.inr (.inl s3))) (some (.inl (IntKind.i64.wrap (s3+1))))) (some (.inr (.inr ())))
def iK (a0:List ak) (s3:Int):Option (Int⊕Unit):=bT (dA a0) KK s3
theorem uw (d:Nat) {a0:List ak} {s3:Int} {r:(Int)⊕(Int⊕Unit)} (h:dA a0 s3=some r):bJ (aU (aB aH (d+2)) KK 19 aej) 0 (jg [0,1,7,8] (fM a0 s3)) (tF a0 r):=by
 unfold dA at h
 exact bA nB ai6 h (.br 9 (λ_=>.bd λx4 q4=>Ix bS 14 q4 <| .bd λx5 q5=>iA (XR (d+0) q5) <| .br 16 (λ_=>E0 [4]) λ_=>E1 [0,1,7,8] [none,none,none,none] [] [.slice none 4 0 0 true,.undef,.undef,.undef]) λ_=>E0 [])
theorem kM (d:Nat) {a0:List ak} {s3:Int} {r:Int⊕Unit} (h:iK a0 s3=some r):bJ (eu (aU (aB aH (d+2)) KK 19 aej) [0,1,7,8] KK) 0 (jg [0,1,7,8] (fM a0 s3)) (gV a0 r) :=
 bY (st:=fM a0) (fin:=gV a0) (step:=dA a0) (λe=>by rcases e with e | e<;>(intro h;cases h)) (λs x h=>uw d h) KK s3 r h
def gT (a0:List ak):Option (Int) :=
 (iK a0 0).bind λ(x6:Int⊕Unit)=>cond (jI x6) (some (CV x6)) (some (-1))
def lC (a0:List ak) (r:Int):AV×WH:=((.int .i64 r),[])
theorem xI (d:Nat) {a0:List ak} {r:Int} (h:gT a0=some r):Spec (aB aH (d+3)) 138 [(dD a0),(.func 120 [])] [] (lC a0 r).1 (lC a0 r).2:=by
 unfold gT at h
 exact aX nB axe h (.bd λx6 q6=>.ite (λDW=>Lp [none,none,none,none] [] [.slice none 4 0 0 true,.undef,.undef,.undef] (jA (il DW) (kM (d+0) q6)) <| Fn Fo [] none) λDW=>Lp [none,none,none,none] [] [.slice none 4 0 0 true,.undef,.undef,.undef] (jA (zy DW) (kM (d+0) q6)) <| Fn Fo [] none)
def fB (a0:List ak):Option (Bool) :=
 (gT a0).bind λ(x1:Int)=>some (decide (x1≥0))
def jW (a0:List ak) (r:Bool):AV×WH:=((.bool r),[])
theorem uy (d:Nat) {a0:List ak} {r:Bool} (h:fB a0=some r):Spec (aB aH (d+4)) 119 [(dD a0),(.func 120 [])] [] (jW a0 r).1 (jW a0 r).2:=by
 unfold fB at h
 exact aX nB awZ h (.bd λx1 q1=>Cb [.slice none 4 0 0 true] (xI (d+0) q1) <| Fn Fo [] none)
abbrev Ug (aS:aA):Fast×WH:=([(1,(.ptr (some (0,0))))],[(some (.cells (bI aS) false false))])
def RU (aS:aA):Unit⊕Unit→Ex×Fast×WH:=fun
 | .inl e=>(.ret,[(2,(.bool false))],[])
 | .inr e=>(.normal,[(1,(.ptr (some (0,0))))],[(some (.cells (bI aS) false false))])
def uY (aS:aA):Option (Unit⊕Unit) :=
 cond (decide (aS.eY < 0)) (some (.inl ())) (cond (decide (aS.eY≥6)) (some (.inl ())) (cond (decide (aS.Epoch < 1)) (some (.inl ())) (cond (decide (aS.Epoch > 1099511627776)) (some (.inl ())) (some (.inr ())))))
theorem Kj (d:Nat) {aS:aA} {r:Unit⊕Unit} (h:uY aS=some r):bJ (aU (aB aH (d+0)) KK 44 akk) 0 (Ug aS) (RU aS r):=by
 unfold uY at h
 exact bA nB aiO h (.br 8 (λ_=>E0 [2]) λ_=>.br 13 (λ_=>E0 [2]) λ_=>.br 18 (λ_=>E0 [2]) λ_=>.br 22 (λ_=>E0 [2]) λ_=>E0 [1])
abbrev Uh (x3:dF) (aS:aA):Fast×WH:=([(1,(.ptr (some (0,0)))),(3,(.ptr (some (1,0))))],[(some (.cells (bI aS) false false)),(some (.cells (mK x3) false false))])
def RV (x3:dF) (aS:aA):Bool→Ex×Fast×WH:=λe=>(.normal,[(1,(.ptr (some (0,0)))),(4,(.bool e))],[(some (.cells (bI aS) false false))])
def nH (x3:dF) (aS:aA):Option (Bool) :=
 (pG x3).bind λ(x4:List au)=>(fI x4 aS.Pairs).bind λ(x5:Bool)=>cond x5 ((lu x3).bind λ(x6:List ak)=>(fJ x6 aS.dX).bind λ(x7:Bool)=>some x7) (some false)
theorem VF (d:Nat) {x3:dF} {aS:aA} {r:Bool} (h:nH x3 aS=some r):bJ (aU (aB aH (d+2)) KK 44 acP) 0 (Uh x3 aS) (RV x3 aS r):=by
 unfold nH at h
 exact bA nB ad6 h (.bd λx4 q4=>Cl [] Fo [] (Qd (d+0) q4) <| .er <| .ob (rfl:@Eq (Option AV) (some (bQ aS.Pairs)) (some (bQ aS.Pairs))) <| .bd λx5 q5=>Cb [.slice none 2 0 0 true,.slice none 2 0 0 true] (pI (d+1) q5) <| .br 30 (λ_=>.bd λx6 q6=>Cl [] Fo [] (K8 (d+0) q6) <| .er <| .ob (rfl:@Eq (Option AV) (some (dD aS.dX)) (some (dD aS.dX))) <| .bd λx7 q7=>Cb [.slice none 4 0 0 true,.slice none 4 0 0 true] (pJ (d+1) q7) <| E0 [1,4]) λ_=>E0 [1,4])
def uZ (aS:aA):Option (Bool) :=
 (uY aS).bind λ(x1:Unit⊕Unit)=>cond (jI x1) (some false) ((F6 aS).bind λ(x3:dF)=>(nH x3 aS).bind λ(x8:Bool)=>cond x8 ((fB aS.dX).bind λ(x9:Bool)=>some (!x9)) (some false))
def Md (aS:aA) (r:Bool):AV×WH:=((.bool r),[])
theorem abI (d:Nat) {aS:aA} {r:Bool} (h:uZ aS=some r):Spec (aB aH (d+9)) 90 [(.agg (bI aS))] [] (Md aS r).1 (Md aS r).2:=by
 unfold uZ at h
 exact aX nB ayV h (.sk <| .bd λx1 q1=>.ite (λhb2=>Jn [1] [none] [] [] (jA (il hb2) (Kj (d+8) q1)) <| Fn Fo [] none) λhb2=>Jn [1] [none] [] [] (jA (zy hb2) (Kj (d+8) q1)) <| .bd λx3 q3=>Cl [] Fo [.agg [.undef,.undef,.slice none 2 0 0 true,.slice none 4 0 0 true]] (ajj (d+0) q3) <| .z 3 [.slice none 2 0 0 true,.undef,.undef,.undef,.undef,.undef,.undef,.undef,.undef,.undef,.undef,.undef,.undef,.undef,.undef,.undef,.undef,.undef,.undef] <| .st none <| .bd λx8 q8=>Jn [1,3] [none,none] [] [] (VF (d+6) q8) <| .br 38 (λ_=>.bd λx9 q9=>Cb [.slice none 4 0 0 true] (uy (d+4) q9) <| Fn Fo [] none) λ_=>Fn Fo [] none)
def kI (aS:aA):Option (Bool) :=
 (F4 aS).bind λ(x1:Bool)=>cond x1 (some true) ((uZ aS).bind λ(x2:Bool)=>some x2)
def Dn (aS:aA) (r:Bool):AV×WH:=((.bool r),[])
theorem zf (d:Nat) {aS:aA} {r:Bool} (h:kI aS=some r):Spec (aB aH (d+10)) 51 [(.agg (bI aS))] [] (Dn aS r).1 (Dn aS r).2:=by
 unfold kI at h
 exact aX nB ayo h (.bd λx1 q1=>Cb [.agg [.undef,.undef,.slice none 2 0 0 true,.slice none 4 0 0 true]] (aeE (d+8) q1) <| .br 5 (λ_=>Fn Fo [] none) λ_=>.bd λx2 q2=>Cb [.agg [.undef,.undef,.slice none 2 0 0 true,.slice none 4 0 0 true]] (abI (d+0) q2) <| Fn Fo [] none)
abbrev XT (m:aF):Fast×WH:=([(1,(.ptr (some (0,0)))),(3,(.func 43 []))],[(some (.cells (bX m) false false))])
def VG (m:aF):Bool→Ex×Fast×WH:=λe=>(.normal,[(1,(.ptr (some (0,0)))),(3,(.func 43 [])),(4,(.bool e))],[(some (.cells (bX m) false false))])
def EK (m:aF):Option (Bool) :=
 cond (decide (m.Kind < 1)) (some true) (some (decide (m.Kind > 10)))
theorem aag (d:Nat) {m:aF} {r:Bool} (h:EK m=some r):bJ (aU (aB aH (d+0)) KK 46 WM) 0 (XT m) (VG m r):=by
 unfold EK at h
 exact bA nB Zk h (.br 8 (λ_=>E0 [1,3,4]) λ_=>E0 [1,3,4])
abbrev XU (m:aF):Fast×WH:=([(1,(.ptr (some (0,0)))),(3,(.func 43 []))],[(some (.cells (bX m) false false))])
def VH (m:aF):Bool→Ex×Fast×WH:=λe=>(.normal,[(1,(.ptr (some (0,0)))),(3,(.func 43 [])),(4,(.bool e))],[(some (.cells (bX m) false false))])
def EL (m:aF):Option (Bool) :=
 (EK m).bind λ(x1:Bool)=>cond x1 (some true) ((Di m).bind λ(x2:List Int)=>(gu x2).bind λ(x3:Bool)=>some x3)
theorem aah (d:Nat) {m:aF} {r:Bool} (h:EL m=some r):bJ (aU (aB aH (d+4)) KK 46 Zj) 0 (XU m) (VH m r):=by
 unfold EL at h
 exact bA nB abe h (.bd λx1 q1=>Jn [1,3] [none,none] [] [] (aag (d+4) q1) <| .br 4 (λ_=>E0 [1,3,4]) λ_=>.bd λx2 q2=>Cl [] Fo [.agg [.undef,.undef,.undef,.undef,.undef,.undef,.undef,.undef,.undef,.undef,.undef,.undef,.undef,.undef,.undef,.undef,.undef,.slice none 1 0 0 true,.slice none 5 0 0 true,.undef,.undef,.slice none 2 0 0 true,.slice none 4 0 0 true]] (K7 (d+3) q2) <| .bd λx3 q3=>iA (rz (d+0) q3) <| E0 [1,3,4])
abbrev XV (m:aF):Fast×WH:=([(1,(.ptr (some (0,0)))),(3,(.func 43 []))],[(some (.cells (bX m) false false))])
def VJ (m:aF):Unit⊕Unit→Ex×Fast×WH:=fun
 | .inl e=>(.ret,[(2,(.bool false))],[])
 | .inr e=>(.normal,[(1,(.ptr (some (0,0))))],[(some (.cells (bX m) false false))])
def EM (m:aF):Option (Unit⊕Unit) :=
 (EL m).bind λ(x4:Bool)=>cond x4 (some (.inl ())) (cond (decide ((m.Path.length:Int) > 5)) (some (.inl ())) (cond (decide ((m.Table.length:Int) > 5)) (some (.inl ())) ((gu m.Path).bind λ(x5:Bool)=>cond x5 (some (.inl ())) ((eF m.Table).bind λ(x6:Bool)=>cond x6 (some (.inl ())) (some (.inr ()))))))
theorem OA (d:Nat) {m:aF} {r:Unit⊕Unit} (h:EM m=some r):bJ (aU (aB aH (d+4)) KK 46 afU) 0 (XV m) (VJ m r):=by
 unfold EM at h
 exact bA nB afV h (.bd λx4 q4=>Jn [1,3] [none,none] [] [] (aah (d+0) q4) <| .br 4 (λ_=>E0 [2]) λ_=>.br 17 (λ_=>E0 [2]) λ_=>.br 17 (λ_=>E0 [2]) λ_=>.bd λx5 q5=>iA (rz (d+0) q5) <| .br 17 (λ_=>E0 [2]) λ_=>.bd λx6 q6=>Cb [.slice none 5 0 0 true] (sM (d+0) q6) <| .br 17 (λ_=>E0 [2]) λ_=>E0 [1])
def zK (m:aF):Option (Bool) :=
 (EM m).bind λ(x7:Unit⊕Unit)=>cond (jI x7) (some false) ((nC m.IK).bind λ(x9:Bool)=>cond x9 ((jL m.Answer).bind λ(x10:Bool)=>cond x10 ((kI m.xg).bind λ(dV:Bool)=>some dV) (some false)) (some false))
def QO (m:aF) (r:Bool):AV×WH:=((.bool r),[])
theorem Ii (d:Nat) {m:aF} {r:Bool} (h:zK m=some r):Spec (aB aH (d+11)) 10 [(.agg (bX m))] [] (QO m r).1 (QO m r).2:=by
 unfold zK at h
 exact aX nB axW h (.sk <| .sk <| .bd λx7 q7=>.ite (λhb8=>Jn [1,3] [none,none] [] [] (jA (il hb8) (OA (d+6) q7)) <| Fn Fo [] none) λhb8=>Jn [1,3] [none,none] [] [] (jA (zy hb8) (OA (d+6) q7)) <| .bd λx9 q9=>iA (BZ (d+8) q9) <| .br 36 (λ_=>.bd λx10 KV=>iA (xE (d+9) KV) <| .br 41 (λ_=>.bd λdV IV=>Cb [.agg [.undef,.undef,.slice none 2 0 0 true,.slice none 4 0 0 true]] (zf (d+0) IV) <| Fn Fo [] none) λ_=>Fn Fo [] none) λ_=>Fn Fo [] none)
abbrev aai (dV:Int) (s10:Int×List UInt8) (n:List Int):Fast×WH:=([(5,(.acc 0 0 1 s10.2.length true)),(7,(.int .i64 dV)),(10,(KT n)),(11,(.int .i64 (n.length:Int))),(12,(.int .i64 s10.1))],[(some (.cells (ML s10.2) false true))])
def XW (dV:Int) (s10:Int×List UInt8) (n:List Int):Unit⊕Unit→Ex×Fast×WH:=fun
 | .inl e=>(.ret,[(4,(.slice none 1 0 0 true))],[])
 | .inr e=>(.normal,[(5,(.acc 0 0 1 s10.2.length true)),(7,(.int .i64 dV)),(10,(KT n)),(11,(.int .i64 (n.length:Int))),(12,(.int .i64 s10.1))],[(some (.cells (ML s10.2) false true))])
def u7 (dV:Int) (s10:Int×List UInt8) (n:List Int):Option (Unit⊕Unit) :=
 cond (decide (dV < 0)) (some (.inl ())) (cond (decide (dV > 4611686018427387903)) (some (.inl ())) (some (.inr ())))
theorem QS (d:Nat) {dV:Int} {s10:Int×List UInt8} {n:List Int} {r:Unit⊕Unit} (h:u7 dV s10 n=some r):bJ (aU (aB aH (d+0)) KK 41 Aa) 0 (aai dV s10 n) (XW dV s10 n r):=by
 unfold u7 at h
 exact bA nB CZ h (.br 18 (λ_=>E0 [4]) λ_=>.br 21 (λ_=>E0 [4]) λ_=>E0 [5,7,10,11,12])
def AO (n:List Int) (s10:Int×List UInt8) (s15:Int×List UInt8):List AV×WH:=([(.acc 0 0 1 s15.2.length true),(.int .i64 s15.1),(KT n),(.int .i64 (n.length:Int)),(.int .i64 s10.1)],[(some (.cells (ML s15.2) false true))])
def Ea (n:List Int) (s10:Int×List UInt8):(Int×List UInt8)→Ex×Fast×WH:=λe=>((.exit 2),[(5,(.acc 0 0 1 e.2.length true)),(7,(.int .i64 e.1)),(10,(KT n)),(11,(.int .i64 (n.length:Int))),(12,(.int .i64 s10.1))],[(some (.cells (ML e.2) false true))])
abbrev aaj (n:List Int) (s10:Int×List UInt8):=dx [5,7,10,11,12] (AO n s10) (Ea n s10)
def kX (n:List Int) (s10:Int×List UInt8) (s15:Int×List UInt8):Option ((Int×List UInt8)⊕((Int×List UInt8))) :=
 cond (decide (s15.1 > 127)) (gd (dh 1 (s15.2++[(Em (orI .i64 (EA .i64 s15.1 127) 128))]).length) (some (.inl ((aa6 .i64 s15.1 7),(s15.2++[(Em (orI .i64 (EA .i64 s15.1 127) 128))]))))) (some (.inr (s15.1,s15.2)))
def OB (n:List Int) (s10:Int×List UInt8) (s15:Int×List UInt8):Option ((Int×List UInt8)):=bT (kX n s10) KK s15
theorem abJ (d:Nat) {n:List Int} {s10:Int×List UInt8} {s15:Int×List UInt8} {r:(Int×List UInt8)⊕((Int×List UInt8))} (h:kX n s10 s15=some r):bJ (aU (aB aH (d+0)) KK 41 Zu) 0 (jg [5,7,10,11,12] (AO n s10 s15)) (aaj n s10 r):=by
 unfold kX at h
 exact bA nB acN h (.br 23 (λ_=>.v 28 (.int .u8 ((Em (orI .i64 (EA .i64 s15.1 127) 128)).toNat:Int)) <| .ob (adT _:@Eq (Option AV) (some (.int .u8 (IntKind.u8.wrap (orI .i64 (EA .i64 s15.1 127) 128)))) (some (.int .u8 ((Em (orI .i64 (EA .i64 s15.1 127) 128)).toNat:Int)))) <| .gd λq16=>Ap UK 30 q16 <| E0 [5,7,10,11,12]) λ_=>E0 [5,7,10,11,12])
theorem abK (d:Nat) {n:List Int} {s10:Int×List UInt8} {s15:Int×List UInt8} {r:(Int×List UInt8)} (h:OB n s10 s15=some r):bJ (eu (aU (aB aH (d+0)) KK 41 Zu) [5,7,10,11,12] KK) 0 (jg [5,7,10,11,12] (AO n s10 s15)) (Ea n s10 r) :=
 bY (st:=AO n s10) (fin:=Ea n s10) (step:=kX n s10) (λe=>by (intro h;cases h)) (λs x h=>abJ d h) KK s15 r h
def AP (n:List Int) (s10:Int×List UInt8):List AV×WH:=([(.acc 0 0 1 s10.2.length true),(KT n),(.int .i64 (n.length:Int)),(.int .i64 s10.1)],[(some (.cells (ML s10.2) false true))])
def Eb (n:List Int):Unit⊕(List UInt8)→Ex×Fast×WH:=fun
 | .inl e=>(.ret,[(4,(.slice none 1 0 0 true))],[])
 | .inr e=>((.exit 0),[(5,(.acc 0 0 1 e.length true))],[(some (.cells (ML e) false true))])
abbrev aak (n:List Int):=dx [5,10,11,12] (AP n) (Eb n)
def yu (n:List Int) (s10:Int×List UInt8):Option ((Int×List UInt8)⊕(Unit⊕(List UInt8))) :=
 cond (decide (s10.1 < (n.length:Int))) ((bO n s10.1).bind λ(dV:Int)=>(u7 dV s10 n).bind λ(cu:Unit⊕Unit)=>cond (jI cu) (some (.inr (.inl ()))) ((OB n s10 (dV,s10.2)).bind λ(iU:(Int×List UInt8))=>gd (dh 1 (iU.2++[(Em iU.1)]).length) (some (.inl ((IntKind.i64.wrap (s10.1+1)),(iU.2++[(Em iU.1)])))))) (some (.inr (.inr s10.2)))
def OC (n:List Int) (s10:Int×List UInt8):Option (Unit⊕(List UInt8)):=bT (yu n) KK s10
theorem abL (d:Nat) {n:List Int} {s10:Int×List UInt8} {r:(Int×List UInt8)⊕(Unit⊕(List UInt8))} (h:yu n s10=some r):bJ (aU (aB aH (d+0)) KK 41 Zt) 0 (jg [5,10,11,12] (AP n s10)) (aak n r):=by
 unfold yu at h
 exact bA nB acM h (.br 13 (λ_=>.bd λdV IV=>Ix Jp 14 IV <| .bd λcu KZ=>.ite (λRq=>Jn [5,7,10,11,12] [none,none,none,none,none] [] [] (jA (il Rq) (QS (d+0) KZ)) <| E0 [4]) λRq=>Jn [5,7,10,11,12] [none,none,none,none,none] [] [] (jA (zy Rq) (QS (d+0) KZ)) <| .bd λiU GH=>Lp [none,none,none,none,none] [] [] (abK (d+0) GH) <| .v 35 (.int .u8 ((Em iU.1).toNat:Int)) <| .ob (adT _:@Eq (Option AV) (some (.int .u8 (IntKind.u8.wrap iU.1))) (some (.int .u8 ((Em iU.1).toNat:Int)))) <| .gd λVk=>Ap UK 37 Vk <| E0 [5,10,11,12]) λ_=>E0 [5])
theorem QT (d:Nat) {n:List Int} {s10:Int×List UInt8} {r:Unit⊕(List UInt8)} (h:OC n s10=some r):bJ (eu (aU (aB aH (d+0)) KK 41 Zt) [5,10,11,12] KK) 0 (jg [5,10,11,12] (AP n s10)) (Eb n r) :=
 bY (st:=AP n) (fin:=Eb n) (step:=yu n) (λe=>by rcases e with e | e<;>(intro h;cases h)) (λs x h=>abL d h) KK s10 r h
def mg (aY:List UInt8) (n:List Int):Option (List UInt8) :=
 gd (dh 1 aY.length) ((OC n (0,aY)).bind λ(om:Unit⊕(List UInt8))=>cond (jI om) (some []) (some (JE om)))
def Ui (aY:List UInt8) (n:List Int) (r:List UInt8):AV×WH:=((oU r),[])
theorem nI (d:Nat) {aY:List UInt8} {n:List Int} {r:List UInt8} (h:mg aY n=some r):Spec (aB aH (d+2)) 55 [(oU aY),(KT n)] [] (Ui aY n r).1 (Ui aY n r).2:=by
 unfold mg at h
 exact aX (Hz _) awJ h (.gd λq1=>.ob q1 <| .bd λom QG=>.ite (λajk=>Lp [none,none,none,none] [] [] (jA (il ajk) (QT (d+1) QG)) <| Fn Fo [] none) λajk=>Lp [none,none,none,none] [] [] (jA (zy ajk) (QT (d+1) QG)) <| Fn Fo [] none)
def Uj (is:Bool):Option (Int) :=
 cond is (some 1) (some 0)
def Xb (is:Bool) (r:Int):AV×WH:=((.int .i64 r),[])
theorem ade (d:Nat) {is:Bool} {r:Int} (h:Uj is=some r):Spec (aB aH (d+1)) 56 [(.bool is)] [] (Xb is r).1 (Xb is r).2:=by
 unfold Uj at h
 exact aX nB ays h (.br 3 (λ_=>Fn Fo [] none) λ_=>Fn Fo [] none)
abbrev VK (dV:Int) (s10:Int×List UInt8) (n:List Int):Fast×WH:=([(5,(.acc 0 0 1 s10.2.length true)),(7,(.int .i64 dV)),(10,(KT n)),(11,(.int .i64 (n.length:Int))),(12,(.int .i64 s10.1))],[(some (.cells (ML s10.2) false true))])
def Uk (dV:Int) (s10:Int×List UInt8) (n:List Int):Unit⊕Unit→Ex×Fast×WH:=fun
 | .inl e=>(.ret,[(4,(.slice none 1 0 0 true))],[])
 | .inr e=>(.normal,[(5,(.acc 0 0 1 s10.2.length true)),(7,(.int .i64 dV)),(10,(KT n)),(11,(.int .i64 (n.length:Int))),(12,(.int .i64 s10.1))],[(some (.cells (ML s10.2) false true))])
def Ji (dV:Int) (s10:Int×List UInt8) (n:List Int):Option (Unit⊕Unit) :=
 cond (decide (dV < 0)) (some (.inl ())) (cond (decide (dV > 4611686018427387903)) (some (.inl ())) (some (.inr ())))
theorem Me (d:Nat) {dV:Int} {s10:Int×List UInt8} {n:List Int} {r:Unit⊕Unit} (h:Ji dV s10 n=some r):bJ (aU (aB aH (d+0)) KK 41 Aa) 0 (VK dV s10 n) (Uk dV s10 n r):=by
 unfold Ji at h
 exact bA nB CZ h (.br 18 (λ_=>E0 [4]) λ_=>.br 21 (λ_=>E0 [4]) λ_=>E0 [5,7,10,11,12])
def wI (n:List Int) (s10:Int×List UInt8) (s15:Int×List UInt8):List AV×WH:=([(.acc 0 0 1 s15.2.length true),(.int .i64 s15.1),(KT n),(.int .i64 (n.length:Int)),(.int .i64 s10.1)],[(some (.cells (ML s15.2) false true))])
def AQ (n:List Int) (s10:Int×List UInt8):(Int×List UInt8)→Ex×Fast×WH:=λe=>((.exit 2),[(5,(.acc 0 0 1 e.2.length true)),(7,(.int .i64 e.1)),(10,(KT n)),(11,(.int .i64 (n.length:Int))),(12,(.int .i64 s10.1))],[(some (.cells (ML e.2) false true))])
abbrev VN (n:List Int) (s10:Int×List UInt8):=dx [5,7,10,11,12] (wI n s10) (AQ n s10)
def yI (n:List Int) (s10:Int×List UInt8) (s15:Int×List UInt8):Option ((Int×List UInt8)⊕((Int×List UInt8))) :=
 cond (decide (s15.1 > 127)) (gd (dh 1 (s15.2++[(Em (orI .i64 (EA .i64 s15.1 127) 128))]).length) (some (.inl ((aa6 .i64 s15.1 7),(s15.2++[(Em (orI .i64 (EA .i64 s15.1 127) 128))]))))) (some (.inr (s15.1,s15.2)))
def QU (n:List Int) (s10:Int×List UInt8) (s15:Int×List UInt8):Option ((Int×List UInt8)):=bT (yI n s10) KK s15
theorem XY (d:Nat) {n:List Int} {s10:Int×List UInt8} {s15:Int×List UInt8} {r:(Int×List UInt8)⊕((Int×List UInt8))} (h:yI n s10 s15=some r):bJ (aU (aB aH (d+0)) KK 41 Zu) 0 (jg [5,7,10,11,12] (wI n s10 s15)) (VN n s10 r):=by
 unfold yI at h
 exact bA nB acN h (.br 23 (λ_=>.v 28 (.int .u8 ((Em (orI .i64 (EA .i64 s15.1 127) 128)).toNat:Int)) <| .ob (adT _:@Eq (Option AV) (some (.int .u8 (IntKind.u8.wrap (orI .i64 (EA .i64 s15.1 127) 128)))) (some (.int .u8 ((Em (orI .i64 (EA .i64 s15.1 127) 128)).toNat:Int)))) <| .gd λq16=>Ap UK 30 q16 <| E0 [5,7,10,11,12]) λ_=>E0 [5,7,10,11,12])
theorem XZ (d:Nat) {n:List Int} {s10:Int×List UInt8} {s15:Int×List UInt8} {r:(Int×List UInt8)} (h:QU n s10 s15=some r):bJ (eu (aU (aB aH (d+0)) KK 41 Zu) [5,7,10,11,12] KK) 0 (jg [5,7,10,11,12] (wI n s10 s15)) (AQ n s10 r) :=
 bY (st:=wI n s10) (fin:=AQ n s10) (step:=yI n s10) (λe=>by (intro h;cases h)) (λs x h=>XY d h) KK s15 r h
def wJ (n:List Int) (s10:Int×List UInt8):List AV×WH:=([(.acc 0 0 1 s10.2.length true),(KT n),(.int .i64 (n.length:Int)),(.int .i64 s10.1)],[(some (.cells (ML s10.2) false true))])
def AU (n:List Int):Unit⊕(List UInt8)→Ex×Fast×WH:=fun
 | .inl e=>(.ret,[(4,(.slice none 1 0 0 true))],[])
 | .inr e=>((.exit 0),[(5,(.acc 0 0 1 e.length true))],[(some (.cells (ML e) false true))])
abbrev VO (n:List Int):=dx [5,10,11,12] (wJ n) (AU n)
def yJ (n:List Int) (s10:Int×List UInt8):Option ((Int×List UInt8)⊕(Unit⊕(List UInt8))) :=
 cond (decide (s10.1 < (n.length:Int))) ((bO n s10.1).bind λ(dV:Int)=>(Ji dV s10 n).bind λ(cu:Unit⊕Unit)=>cond (jI cu) (some (.inr (.inl ()))) ((QU n s10 (dV,s10.2)).bind λ(iU:(Int×List UInt8))=>gd (dh 1 (iU.2++[(Em iU.1)]).length) (some (.inl ((IntKind.i64.wrap (s10.1+1)),(iU.2++[(Em iU.1)])))))) (some (.inr (.inr s10.2)))
def QV (n:List Int) (s10:Int×List UInt8):Option (Unit⊕(List UInt8)):=bT (yJ n) KK s10
theorem X0 (d:Nat) {n:List Int} {s10:Int×List UInt8} {r:(Int×List UInt8)⊕(Unit⊕(List UInt8))} (h:yJ n s10=some r):bJ (aU (aB aH (d+0)) KK 41 Zt) 0 (jg [5,10,11,12] (wJ n s10)) (VO n r):=by
 unfold yJ at h
 exact bA nB acM h (.br 13 (λ_=>.bd λdV IV=>Ix Jp 14 IV <| .bd λcu KZ=>.ite (λRq=>Jn [5,7,10,11,12] [none,none,none,none,none] [] [] (jA (il Rq) (Me (d+0) KZ)) <| E0 [4]) λRq=>Jn [5,7,10,11,12] [none,none,none,none,none] [] [] (jA (zy Rq) (Me (d+0) KZ)) <| .bd λiU GH=>Lp [none,none,none,none,none] [] [] (XZ (d+0) GH) <| .v 35 (.int .u8 ((Em iU.1).toNat:Int)) <| .ob (adT _:@Eq (Option AV) (some (.int .u8 (IntKind.u8.wrap iU.1))) (some (.int .u8 ((Em iU.1).toNat:Int)))) <| .gd λVk=>Ap UK 37 Vk <| E0 [5,10,11,12]) λ_=>E0 [5])
theorem Mf (d:Nat) {n:List Int} {s10:Int×List UInt8} {r:Unit⊕(List UInt8)} (h:QV n s10=some r):bJ (eu (aU (aB aH (d+0)) KK 41 Zt) [5,10,11,12] KK) 0 (jg [5,10,11,12] (wJ n s10)) (AU n r) :=
 bY (st:=wJ n) (fin:=AU n) (step:=yJ n) (λe=>by rcases e with e | e<;>(intro h;cases h)) (λs x h=>X0 d h) KK s10 r h
def F9 (aY:List UInt8) (n:List Int):Option (List UInt8) :=
 gd (dh 1 aY.length) ((QV n (0,aY)).bind λ(om:Unit⊕(List UInt8))=>cond (jI om) (some []) (some (JE om)))
def qP (aY:List UInt8) (n:List Int) (r:List UInt8):AV×WH:=((.acc 0 0 1 r.length true),[(some (.cells (ML r) false true))])
theorem aeF (d:Nat) {aY:List UInt8} {n:List Int} {r:List UInt8} (h:F9 aY n=some r):Spec (aB aH (d+2)) 55 [(oU aY),(KT n)] [] (qP aY n r).1 (qP aY n r).2:=by
 unfold F9 at h
 exact aX (Hz _) awJ h (.gd λq1=>.ob q1 <| .bd λom QG=>.ite (λajk=>Lp [none,none,none,none] [] [] (jA (il ajk) (Mf (d+1) QG)) <| .xP (.fin (some true) [] none) _ (λr=>@Eq AV (.acc 0 0 1 0 true) (qP aY n r).1∧@Eq WH [(some (.cells (ML []) false true))] (qP aY n r).2) (by show _∧_;refine ⟨?_, ?_⟩<;>first | rfl | (simp only [qP,List.length_set,List.length_append,List.length_replicate,List.length_cons,List.length_nil,List.length_take,List.length_drop,Nat.add_zero,Nat.zero_add];done) | simp [qP])) λajk=>Lp [none,none,none,none] [] [] (jA (zy ajk) (Mf (d+1) QG)) <| Fn Tw [] none)
def yK (dL:List (List UInt8)) (s5:Int×List UInt8):List AV×WH:=([(.acc 0 0 1 s5.2.length true),(l_S dL),(.int .i64 (dL.length:Int)),(.int .i64 s5.1)],[(some (.cells (ML s5.2) false true))])
def B_ (dL:List (List UInt8)):(List UInt8)→Ex×Fast×WH:=λe=>((.exit 0),[(5,(.acc 0 0 1 e.length true))],[(some (.cells (ML e) false true))])
abbrev X3 (dL:List (List UInt8)):=dx [5,10,11,12] (yK dL) (B_ dL)
def u_ (dL:List (List UInt8)) (s5:Int×List UInt8):Option ((Int×List UInt8)⊕((List UInt8))) :=
 cond (decide (s5.1 < (dL.length:Int))) ((bO dL s5.1).bind λ(x6:List UInt8)=>(F9 s5.2 ([(x6.length:Int)])).bind λ(x7:List UInt8)=>gd (dh 1 (x7++x6).length) (some (.inl ((IntKind.i64.wrap (s5.1+1)),(x7++x6))))) (some (.inr s5.2))
def K9 (dL:List (List UInt8)) (s5:Int×List UInt8):Option ((List UInt8)):=bT (u_ dL) KK s5
theorem aal (d:Nat) {dL:List (List UInt8)} {s5:Int×List UInt8} {r:(Int×List UInt8)⊕((List UInt8))} (h:u_ dL s5=some r):bJ (aU (aB aH (d+2)) KK 26 aiS) 0 (jg [5,10,11,12] (yK dL s5)) (X3 dL r):=by
 unfold u_ at h
 exact bA nB alO h (.br 13 (λ_=>.bd λx6 q6=>Ix R_S 14 q6 <| .bd λx7 q7=>Cl [] Fo [] (aeF (d+0) q7) <| .gd λq8=>Ap UK 22 q8 <| E0 [5,10,11,12]) λ_=>E0 [5])
theorem aam (d:Nat) {dL:List (List UInt8)} {s5:Int×List UInt8} {r:(List UInt8)} (h:K9 dL s5=some r):bJ (eu (aU (aB aH (d+2)) KK 26 aiS) [5,10,11,12] KK) 0 (jg [5,10,11,12] (yK dL s5)) (B_ dL r) :=
 bY (st:=yK dL) (fin:=B_ dL) (step:=u_ dL) (λe=>by (intro h;cases h)) (λs x h=>aal d h) KK s5 r h
def Ca (aY:List UInt8) (dL:List (List UInt8)):Option (List UInt8) :=
 gd (dh 1 aY.length) ((K9 dL (0,aY)).bind λ(x9:(List UInt8))=>some x9)
def QW (aY:List UInt8) (dL:List (List UInt8)) (r:List UInt8):AV×WH:=((oU r),[])
theorem OD (d:Nat) {aY:List UInt8} {dL:List (List UInt8)} {r:List UInt8} (h:Ca aY dL=some r):Spec (aB aH (d+3)) 95 [(oU aY),(l_S dL)] [] (QW aY dL r).1 (QW aY dL r).2:=by
 unfold Ca at h
 exact aX (Hz _) ayY h (.gd λq1=>.ob q1 <| .bd λx9 q9=>Lp [none,none,none,none] [] [] (aam (d+0) q9) <| Fn Fo [] none)
def AY (aY:List UInt8) (p_r:bn):Option (List UInt8) :=
 (nC p_r).bind λ(x1:Bool)=>cond (!x1) (some []) ((mg aY ([p_r.Client,p_r.Seq,p_r.Op.Kind])).bind λ(x2:List UInt8)=>(Ca x2 ([p_r.Op.Key,p_r.Op.Value,p_r.Op.Old])).bind λ(x3:List UInt8)=>some x3)
def Kk (aY:List UInt8) (p_r:bn) (r:List UInt8):AV×WH:=((oU r),[])
theorem aan (d:Nat) {aY:List UInt8} {p_r:bn} {r:List UInt8} (h:AY aY p_r=some r):Spec (aB aH (d+4)) 58 [(oU aY),(.agg (sO p_r))] [] (Kk aY p_r r).1 (Kk aY p_r r).2:=by
 unfold AY at h
 exact aX nB ayu h (.bd λx1 q1=>iA (BZ (d+1) q1) <| .br 7 (λ_=>Fn Fo [] none) λ_=>.bd λx2 q2=>Cl [] Fo [] (nI (d+1) q2) <| .bd λx3 q3=>Cl [] Fo [] (OD (d+0) q3) <| Fn Fo [] none)
def oH (aY:List UInt8) (a:aD):Option (List UInt8) :=
 (jL a).bind λ(x1:Bool)=>cond (!x1) (some []) ((mg aY [a.Why]).bind λ(x2:List UInt8)=>(Ca x2 [a.Value]).bind λ(x3:List UInt8)=>some x3)
def Es (aY:List UInt8) (a:aD) (r:List UInt8):AV×WH:=((oU r),[])
theorem Ij (d:Nat) {aY:List UInt8} {a:aD} {r:List UInt8} (h:oH aY a=some r):Spec (aB aH (d+4)) 57 [(oU aY),(.agg (dQ a))] [] (Es aY a r).1 (Es aY a r).2:=by
 unfold oH at h
 exact aX nB ayt h (.bd λx1 q1=>iA (xE (d+2) q1) <| .br 7 (λ_=>Fn Fo [] none) λ_=>.bd λx2 q2=>Cl [] Fo [] (nI (d+1) q2) <| .bd λx3 q3=>Cl [] Fo [] (OD (d+0) q3) <| Fn Fo [] none)
def pK (aS:aA) (s5:List UInt8×Int):List AV×WH:=([(.ptr (some (0,0))),(oU s5.1),(bQ aS.Pairs),(.int .i64 (aS.Pairs.length:Int)),(.int .i64 s5.2)],[(some (.cells (bI aS) false false))])
def tH (aS:aA):(List UInt8)→Ex×Fast×WH:=λe=>((.exit 0),[(3,(.ptr (some (0,0)))),(5,(oU e))],[(some (.cells (bI aS) false false))])
abbrev OE (aS:aA):=dx [3,5,24,25,26] (pK aS) (tH aS)
def jT (aS:aA) (s5:List UInt8×Int):Option ((List UInt8×Int)⊕((List UInt8))) :=
 cond (decide (s5.2 < (aS.Pairs.length:Int))) ((bO aS.Pairs s5.2).bind λ(x6:au)=>(Ca s5.1 ([x6.Key,x6.Value])).bind λ(x7:List UInt8)=>some (.inl (x7,(IntKind.i64.wrap (s5.2+1))))) (some (.inr s5.1))
def t_ (aS:aA) (s5:List UInt8×Int):Option ((List UInt8)):=bT (jT aS) KK s5
theorem Qf (d:Nat) {aS:aA} {s5:List UInt8×Int} {r:(List UInt8×Int)⊕((List UInt8))} (h:jT aS s5=some r):bJ (aU (aB aH (d+3)) KK 63 aix) 0 (jg [3,5,24,25,26] (pK aS s5)) (OE aS r):=by
 unfold jT at h
 exact bA nB alp h (.br 27 (λ_=>.bd λx6 q6=>Ix aQ 28 q6 <| .st none <| .bd λx7 q7=>Cl [] Fo [] (OD (d+0) q7) <| E1 [3,5,24,25,26] [none,none,none,none,none] [] [.undef,.undef,.slice none 2 0 0 true,.undef,.undef]) λ_=>E0 [3,5])
theorem Qg (d:Nat) {aS:aA} {s5:List UInt8×Int} {r:(List UInt8)} (h:t_ aS s5=some r):bJ (eu (aU (aB aH (d+3)) KK 63 aix) [3,5,24,25,26] KK) 0 (jg [3,5,24,25,26] (pK aS s5)) (tH aS r) :=
 bY (st:=pK aS) (fin:=tH aS) (step:=jT aS) (λe=>by (intro h;cases h)) (λs x h=>Qf d h) KK s5 r h
def pO (aS:aA) (s13:List UInt8×Int):List AV×WH:=([(oU s13.1),(dD aS.dX),(.int .i64 (aS.dX.length:Int)),(.int .i64 s13.2)],[])
def tJ (aS:aA):(List UInt8)→Ex×Fast×WH:=λe=>((.exit 2),[(5,(oU e))],[])
abbrev OG (aS:aA):=dx [5,45,46,47] (pO aS) (tJ aS)
def jU (aS:aA) (s13:List UInt8×Int):Option ((List UInt8×Int)⊕((List UInt8))) :=
 cond (decide (s13.2 < (aS.dX.length:Int))) ((bO aS.dX s13.2).bind λ(lH:ak)=>(mg s13.1 ([lH.Client,lH.Seq])).bind λ(bR:List UInt8)=>(oH bR lH.Answer).bind λ(yY:List UInt8)=>some (.inl (yY,(IntKind.i64.wrap (s13.2+1))))) (some (.inr s13.1))
def uf (aS:aA) (s13:List UInt8×Int):Option ((List UInt8)):=bT (jU aS) KK s13
theorem Qh (d:Nat) {aS:aA} {s13:List UInt8×Int} {r:(List UInt8×Int)⊕((List UInt8))} (h:jU aS s13=some r):bJ (aU (aB aH (d+4)) KK 63 aiy) 0 (jg [5,45,46,47] (pO aS s13)) (OG aS r):=by
 unfold jU at h
 exact bA nB alq h (.br 48 (λ_=>.bd λlH LW=>Ix bS 49 LW <| .st none <| .bd λbR KC=>Cl [] Fo [] (nI (d+2) KC) <| .bd λyY q16=>Cl [] Fo [] (Ij (d+0) q16) <| E1 [5,45,46,47] [none,none,none,none] [] [.undef,.slice none 4 0 0 true,.undef,.undef]) λ_=>E0 [5])
theorem Qi (d:Nat) {aS:aA} {s13:List UInt8×Int} {r:(List UInt8)} (h:uf aS s13=some r):bJ (eu (aU (aB aH (d+4)) KK 63 aiy) [5,45,46,47] KK) 0 (jg [5,45,46,47] (pO aS s13)) (tJ aS r) :=
 bY (st:=pO aS) (fin:=tJ aS) (step:=jU aS) (λe=>by (intro h;cases h)) (λs x h=>Qh d h) KK s13 r h
def vg (aY:List UInt8) (aS:aA):Option (List UInt8) :=
 (kI aS).bind λ(x1:Bool)=>cond (!x1) (some []) ((mg aY ([aS.eY,aS.Epoch,(aS.Pairs.length:Int)])).bind λ(x2:List UInt8)=>(t_ aS (x2,0)).bind λ(x8:(List UInt8))=>(mg x8 ([(aS.dX.length:Int)])).bind λ(x9:List UInt8)=>(uf aS (x9,0)).bind λ(iU:(List UInt8))=>some iU)
def Ga (aY:List UInt8) (aS:aA) (r:List UInt8):AV×WH:=((oU r),[])
theorem VP (d:Nat) {aY:List UInt8} {aS:aA} {r:List UInt8} (h:vg aY aS=some r):Spec (aB aH (d+11)) 59 [(oU aY),(.agg (bI aS))] [] (Ga aY aS r).1 (Ga aY aS r).2:=by
 unfold vg at h
 exact aX nB ayv h (.bd λx1 q1=>Cb [.agg [.undef,.undef,.slice none 2 0 0 true,.slice none 4 0 0 true]] (zf (d+0) q1) <| .br 12 (λ_=>Fn Fo [] none) λ_=>.bd λx2 q2=>Cl [] Fo [] (nI (d+8) q2) <| .bd λx8 q8=>Lp [none,none,none,none,none] [] [.undef,.undef,.slice none 2 0 0 true,.undef,.undef] (Qg (d+7) q8) <| .bd λx9 q9=>Cl [] Fo [] (nI (d+8) q9) <| .bd λiU GH=>Lp [none,none,none,none] [] [.undef,.slice none 4 0 0 true,.undef,.undef] (Qi (d+6) GH) <| Fn Fo [] none)
end Go.Proofs.YtohoggieaanllaaGreat
