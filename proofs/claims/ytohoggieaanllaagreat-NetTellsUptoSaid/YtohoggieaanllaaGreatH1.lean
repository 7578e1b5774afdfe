import Derived.Test.YtohoggieaanllaaGreatY3
import Derived.Test.YtohoggieaanllaaGreatJ6
set_option linter.all false
set_option maxRecDepth 100000
namespace Go.Proofs.YtohoggieaanllaaGreat
def yh(n:Int):Option (Bool) :=
 cond (decide (n≥0)) (some (decide (n≤4611686018427387903))) (some false)
def Rs(n:Int)(r:Bool):AV×WH:=((.bool r),[])
theorem HY(d:Nat){n:Int}{r:Bool}(h:yh n=some r):Spec (aQ aT (d+1)) 44 [(.int .i64 n)] [] (Rs n r).1 (Rs n r).2:=by
 unfold yh at h
 exact bK nB aCE h (.br 5 (λ_=>Fn Fo [] none) λ_=>Fn Fo [] none)
def KS(n:Int):Option (Bool) :=
 (yh n).bind λ(x1:Bool)=>some (!x1)
def Ph(n:Int)(r:Bool):AV×WH:=((.bool r),[])
theorem aeQ(d:Nat){n:Int}{r:Bool}(h:KS n=some r):Spec (aQ aT (d+2)) 43 [(.int .i64 n)] [] (Ph n r).1 (Ph n r).2:=by
 unfold KS at h
 exact bK nB aCD h (.bd λx1 q1=>jw (HY (d+0) q1)<|Fn Fo [] none)
def jO(a0:List Int)(s3:Int):List AV×WH:=([(Lg a0),(.func 43 []),(.int .i64 (a0.length:Int)),(.int .i64 s3)],[])
def l7(a0:List Int):Int⊕Unit→Ex×Fast×WH:=fun
 |.inl e=>(.ret,[(4,(.int .i64 e))],[])
 |.inr e=>((.exit 0),[],[])
abbrev EJ(a0:List Int):=eF [0,1,7,8] (jO a0) (l7 a0)
def gI(a0:List Int)(s3:Int):Option ((Int)⊕(Int⊕Unit)) :=
 cond (decide (s3<(a0.length:Int))) ((dH a0 s3).bind λ(x4:Int)=>(KS x4).bind λ(x5:Bool)=>cond x5 (some (.inr (.inl s3))) (some (.inl (IntKind.i64.wrap (s3+1))))) (some (.inr (.inr ())))
def oM(a0:List Int)(s3:Int):Option (Int⊕Unit):=dG (gI a0) KK s3
theorem FW(d:Nat){a0:List Int}{s3:Int}{r:(Int)⊕(Int⊕Unit)}(h:gI a0 s3=some r):dx (bF (aQ aT (d+2)) KK 19 alY) 0 (jM [0,1,7,8] (jO a0 s3)) (EJ a0 r):=by
 unfold gI at h
 exact bU nB aoY h (.br 9 (λ_=>.bd λx4 q4=>Ix Lc 14 q4<|.bd λx5 q5=>jw (aeQ (d+0) q5)<|.br 16 (λ_=>E0 [4]) λ_=>E0 [0,1,7,8]) λ_=>E0 [])
theorem uO(d:Nat){a0:List Int}{s3:Int}{r:Int⊕Unit}(h:oM a0 s3=some r):dx (fQ (bF (aQ aT (d+2)) KK 19 alY) [0,1,7,8] KK) 0 (jM [0,1,7,8] (jO a0 s3)) (l7 a0 r) :=
 dS (st:=jO a0) (fin:=l7 a0) (step:=gI a0) (λe=>by rcases e with e | e<;>(intro h;cases h)) (λs x h=>FW d h) KK s3 r h
def ny(a0:List Int):Option (Int) :=
 (oM a0 0).bind λ(x6:Int⊕Unit)=>cond (jY x6) (some (Bu x6)) (some (-1))
def vT(a0:List Int)(r:Int):AV×WH:=((.int .i64 r),[])
theorem Jp(d:Nat){a0:List Int}{r:Int}(h:ny a0=some r):Spec (aQ aT (d+3)) 86 [(Lg a0),(.func 43 [])] [] (vT a0 r).1 (vT a0 r).2:=by
 unfold ny at h
 exact bK nB aDg h (.bd λx6 q6=>.ite (λGx=>Lp [none,none,none,none] [] [] (kI (il Gx) (uO (d+0) q6))<|Fn Fo [] none) λGx=>Lp [none,none,none,none] [] [] (kI (Ai Gx) (uO (d+0) q6))<|Fn Fo [] none)
def iL(a0:List Int):Option (Bool) :=
 (ny a0).bind λ(x1:Int)=>some (decide (x1≥0))
def tN(a0:List Int)(r:Bool):AV×WH:=((.bool r),[])
theorem uP(d:Nat){a0:List Int}{r:Bool}(h:iL a0=some r):Spec (aQ aT (d+4)) 45 [(Lg a0),(.func 43 [])] [] (tN a0 r).1 (tN a0 r).2:=by
 unfold iL at h
 exact bK nB aCF h (.bd λx1 q1=>jw (Jp (d+0) q1)<|Fn Fo [] none)
def Nn(bC:aI):Option (Bool) :=
 (yh bC.Inc).bind λ(x1:Bool)=>cond (!x1) (some true) (cond (decide (bC.Status<0)) (some true) (cond (decide (bC.Status>2)) (some true) ((yh bC.rG).bind λ(x2:Bool)=>cond (!x2) (some true) ((yh bC.Load).bind λ(x3:Bool)=>some (!x3)))))
def Ux(bC:aI)(r:Bool):AV×WH:=((.bool r),[])
theorem aj4(d:Nat){bC:aI}{r:Bool}(h:Nn bC=some r):Spec (aQ aT (d+2)) 48 [(.agg (Ca bC))] [] (Ux bC r).1 (Ux bC r).2:=by
 unfold Nn at h
 exact bK nB aCI h (.bd λx1 q1=>jw (HY (d+0) q1)<|.br 7 (λ_=>Fn Fo [] none) λ_=>.br 12 (λ_=>Fn Fo [] none) λ_=>.br 17 (λ_=>Fn Fo [] none) λ_=>.bd λx2 q2=>jw (HY (d+0) q2)<|.br 23 (λ_=>Fn Fo [] none) λ_=>.bd λx3 q3=>jw (HY (d+0) q3)<|Fn Fo [] none)
def gU(a0:List aI)(s3:Int):List AV×WH:=([(fK a0),(.func 48 []),(.int .i64 (a0.length:Int)),(.int .i64 s3)],[])
def jc(a0:List aI):Int⊕Unit→Ex×Fast×WH:=fun
 |.inl e=>(.ret,[(4,(.int .i64 e))],[])
 |.inr e=>((.exit 0),[],[])
abbrev vC(a0:List aI):=eF [0,1,7,8] (gU a0) (jc a0)
def eG(a0:List aI)(s3:Int):Option ((Int)⊕(Int⊕Unit)) :=
 cond (decide (s3<(a0.length:Int))) ((dH a0 s3).bind λ(x4:aI)=>(Nn x4).bind λ(x5:Bool)=>cond x5 (some (.inr (.inl s3))) (some (.inl (IntKind.i64.wrap (s3+1))))) (some (.inr (.inr ())))
def jy(a0:List aI)(s3:Int):Option (Int⊕Unit):=dG (eG a0) KK s3
theorem vU(d:Nat){a0:List aI}{s3:Int}{r:(Int)⊕(Int⊕Unit)}(h:eG a0 s3=some r):dx (bF (aQ aT (d+2)) KK 19 alZ) 0 (jM [0,1,7,8] (gU a0 s3)) (vC a0 r):=by
 unfold eG at h
 exact bU nB ao0 h (.br 9 (λ_=>.bd λx4 q4=>Ix lX 14 q4<|.bd λx5 q5=>jw (aj4 (d+0) q5)<|.br 16 (λ_=>E0 [4]) λ_=>E1 [0,1,7,8] [none,none,none,none] [] [.slice none 5 0 0 true,.undef,.undef,.undef]) λ_=>E0 [])
theorem lY(d:Nat){a0:List aI}{s3:Int}{r:Int⊕Unit}(h:jy a0 s3=some r):dx (fQ (bF (aQ aT (d+2)) KK 19 alZ) [0,1,7,8] KK) 0 (jM [0,1,7,8] (gU a0 s3)) (jc a0 r) :=
 dS (st:=gU a0) (fin:=jc a0) (step:=eG a0) (λe=>by rcases e with e | e<;>(intro h;cases h)) (λs x h=>vU d h) KK s3 r h
def iU(a0:List aI):Option (Int) :=
 (jy a0 0).bind λ(x6:Int⊕Unit)=>cond (jY x6) (some (Bu x6)) (some (-1))
def mF(a0:List aI)(r:Int):AV×WH:=((.int .i64 r),[])
theorem yj(d:Nat){a0:List aI}{r:Int}(h:iU a0=some r):Spec (aQ aT (d+3)) 87 [(fK a0),(.func 48 [])] [] (mF a0 r).1 (mF a0 r).2:=by
 unfold iU at h
 exact bK nB aDh h (.bd λx6 q6=>.ite (λGx=>Lp [none,none,none,none] [] [.slice none 5 0 0 true,.undef,.undef,.undef] (kI (il Gx) (lY (d+0) q6))<|Fn Fo [] none) λGx=>Lp [none,none,none,none] [] [.slice none 5 0 0 true,.undef,.undef,.undef] (kI (Ai Gx) (lY (d+0) q6))<|Fn Fo [] none)
def gq(a0:List aI):Option (Bool) :=
 (iU a0).bind λ(x1:Int)=>some (decide (x1≥0))
def lG(a0:List aI)(r:Bool):AV×WH:=((.bool r),[])
theorem vV(d:Nat){a0:List aI}{r:Bool}(h:gq a0=some r):Spec (aQ aT (d+4)) 47 [(fK a0),(.func 48 [])] [] (lG a0 r).1 (lG a0 r).2:=by
 unfold gq at h
 exact bK nB aCH h (.bd λx1 q1=>Cb [.slice none 5 0 0 true] (yj (d+0) q1)<|Fn Fo [] none)
abbrev Xo(o:bZ):Fast×WH:=([(1,(.ptr (some (0,0))))],[(some (.cells (iy o) false false))])
def Vr(o:bZ):Bool→Ex×Fast×WH:=λe=>(.normal,[(1,(.ptr (some (0,0)))),(3,(.bool e))],[(some (.cells (iy o) false false))])
def Dn(o:bZ):Option (Bool) :=
 cond (o.Kind==2) (some true) (some (o.Kind==4))
theorem Y3(d:Nat){o:bZ}{r:Bool}(h:Dn o=some r):dx (bF (aQ aT (d+0)) KK 53 anE) 0 (Xo o) (Vr o r):=by
 unfold Dn at h
 exact bU nB al0 h (.br 7 (λ_=>E0 [1,3]) λ_=>E0 [1,3])
abbrev Xp(o:bZ)(x1:Bool):Fast×WH:=([(1,(.ptr (some (0,0)))),(3,(.bool x1))],[(some (.cells (iy o) false false))])
def Vs(o:bZ)(x1:Bool):Bool→Ex×Fast×WH:=λe=>(.normal,[(1,(.ptr (some (0,0)))),(3,(.bool x1)),(12,(.bool e))],[(some (.cells (iy o) false false))])
def Dp(o:bZ)(x1:Bool):Option (Bool) :=
 cond (decide (o.Kind<1)) (some true) (some (decide (o.Kind>4)))
theorem Y4(d:Nat){o:bZ}{x1:Bool}{r:Bool}(h:Dp o x1=some r):dx (bF (aQ aT (d+0)) KK 53 Z9) 0 (Xp o x1) (Vs o x1 r):=by
 unfold Dp at h
 exact bU nB acV h (.br 16 (λ_=>E0 [1,3,12]) λ_=>E0 [1,3,12])
abbrev Xq(o:bZ)(x1:Bool):Fast×WH:=([(1,(.ptr (some (0,0)))),(3,(.bool x1))],[(some (.cells (iy o) false false))])
def Vt(o:bZ)(x1:Bool):Bool→Ex×Fast×WH:=λe=>(.normal,[(1,(.ptr (some (0,0)))),(3,(.bool x1)),(12,(.bool e))],[(some (.cells (iy o) false false))])
def Dq(o:bZ)(x1:Bool):Option (Bool) :=
 (Dp o x1).bind λ(x2:Bool)=>cond x2 (some true) (cond (o.Key==([]:List UInt8)) (some true) (some (decide ((o.Key.length:Int)>8))))
theorem Y5(d:Nat){o:bZ}{x1:Bool}{r:Bool}(h:Dq o x1=some r):dx (bF (aQ aT (d+0)) KK 53 acU) 0 (Xq o x1) (Vt o x1 r):=by
 unfold Dq at h
 exact bU nB aev h (.bd λx2 q2=>Jn [1,3] [none,none] [] [] (Y4 (d+0) q2)<|.br 12 (λ_=>E0 [1,3,12]) λ_=>.br 12 (λ_=>E0 [1,3,12]) λ_=>E0 [1,3,12])
abbrev Xr(o:bZ)(x1:Bool):Fast×WH:=([(1,(.ptr (some (0,0)))),(3,(.bool x1))],[(some (.cells (iy o) false false))])
def Vu(o:bZ)(x1:Bool):Unit⊕Unit→Ex×Fast×WH:=fun
 |.inl e=>(.ret,[(2,(.bool false))],[])
 |.inr e=>(.normal,[(1,(.ptr (some (0,0)))),(3,(.bool x1))],[(some (.cells (iy o) false false))])
def Dr(o:bZ)(x1:Bool):Option (Unit⊕Unit) :=
 (Dq o x1).bind λ(x3:Bool)=>cond x3 (some (.inl ())) (cond (decide ((o.Value.length:Int)>16)) (some (.inl ())) (cond (decide ((o.Old.length:Int)>16)) (some (.inl ())) (some (.inr ()))))
theorem Np(d:Nat){o:bZ}{x1:Bool}{r:Unit⊕Unit}(h:Dr o x1=some r):dx (bF (aQ aT (d+0)) KK 53 aja) 0 (Xr o x1) (Vu o x1 r):=by
 unfold Dr at h
 exact bU nB ajb h (.bd λx3 q3=>Jn [1,3] [none,none] [] [] (Y5 (d+0) q3)<|.br 12 (λ_=>E0 [2]) λ_=>.br 28 (λ_=>E0 [2]) λ_=>.br 28 (λ_=>E0 [2]) λ_=>E0 [1,3])
def Cm(o:bZ):Option (Bool) :=
 (Dn o).bind λ(x1:Bool)=>(Dr o x1).bind λ(x4:Unit⊕Unit)=>cond (jY x4) (some false) (cond x1 (cond (o.Kind==4) (some true) (some (o.Old==([]:List UInt8)))) (cond (o.Value==([]:List UInt8)) (cond (o.Kind==4) (some true) (some (o.Old==([]:List UInt8)))) (some false)))
def Pj(o:bZ)(r:Bool):AV×WH:=((.bool r),[])
theorem Uy(d:Nat){o:bZ}{r:Bool}(h:Cm o=some r):Spec (aQ aT (d+1)) 88 [(.agg (iy o))] [] (Pj o r).1 (Pj o r).2:=by
 unfold Cm at h
 exact bK nB aDi h (.sk<|.bd λx1 q1=>Jn [1] [none] [] [] (Y3 (d+0) q1)<|.bd λx4 q4=>.ite (λhb5=>Jn [1,3] [none,none] [] [] (kI (il hb5) (Np (d+0) q4))<|Fn Fo [] none) λhb5=>Jn [1,3] [none,none] [] [] (kI (Ai hb5) (Np (d+0) q4))<|.br 38 (λ_=>.br 47 (λ_=>Fn Fo [] none) λ_=>Fn Fo [] none) λ_=>.br 43 (λ_=>.br 47 (λ_=>Fn Fo [] none) λ_=>Fn Fo [] none) λ_=>Fn Fo [] none)
def qm(p_r:bJ):Option (Bool) :=
 cond (p_r.Client==0&&(p_r.Seq==0&&(p_r.Op.Kind==0&&(p_r.Op.Key==([]:List UInt8)&&(p_r.Op.Value==([]:List UInt8)&&(p_r.Op.Old==([]:List UInt8)&&true)))))) (some true) (cond (decide (p_r.Client≥0)) (cond (decide (p_r.Client<4)) (cond (decide (p_r.Seq≥1)) (cond (decide (p_r.Seq≤4611686018427387903)) ((Cm p_r.Op).bind λ(x1:Bool)=>some x1) (some false)) (some false)) (some false)) (some false))
def Jq(p_r:bJ)(r:Bool):AV×WH:=((.bool r),[])
theorem EK(d:Nat){p_r:bJ}{r:Bool}(h:qm p_r=some r):Spec (aQ aT (d+2)) 49 [(.agg (wh p_r))] [] (Jq p_r r).1 (Jq p_r r).2:=by
 unfold qm at h
 exact bK nB aCJ h (.br 5 (λ_=>Fn Fo [] none) λ_=>.br 9 (λ_=>.br 14 (λ_=>.br 19 (λ_=>.br 24 (λ_=>.bd λx1 q1=>jw (Uy (d+0) q1)<|Fn Fo [] none) λ_=>Fn Fo [] none) λ_=>Fn Fo [] none) λ_=>Fn Fo [] none) λ_=>Fn Fo [] none)
def lJ(a:aJ):Option (Bool) :=
 cond (decide (a.Why≥0)) (cond (decide (a.Why≤11)) (some (decide ((a.Value.length:Int)≤16))) (some false)) (some false)
def Em(a:aJ)(r:Bool):AV×WH:=((.bool r),[])
theorem zZ(d:Nat){a:aJ}{r:Bool}(h:lJ a=some r):Spec (aQ aT (d+1)) 50 [(.agg (fM a))] [] (Em a r).1 (Em a r).2:=by
 unfold lJ at h
 exact bK nB aCK h (.br 6 (λ_=>.br 11 (λ_=>Fn Fo [] none) λ_=>Fn Fo [] none) λ_=>Fn Fo [] none)
def Jr(bC:aM):Option (Bool) :=
 cond (bC.fJ==0) (cond (bC.Epoch==0) (cond ((bC.Pairs.length:Int)==0) (some ((bC.fu.length:Int)==0)) (some false)) (some false)) (some false)
def Ru(bC:aM)(r:Bool):AV×WH:=((.bool r),[])
theorem ahI(d:Nat){bC:aM}{r:Bool}(h:Jr bC=some r):Spec (aQ aT (d+1)) 89 [(.agg (dB bC))] [] (Ru bC r).1 (Ru bC r).2:=by
 unfold Jr at h
 exact bK nB aDj h (.br 6 (λ_=>.br 11 (λ_=>.br 17 (λ_=>Fn Fo [] none) λ_=>Fn Fo [] none) λ_=>Fn Fo [] none) λ_=>Fn Fo [] none)
def cmp_isNaN_string(a0:List UInt8):Option (Bool) :=
 some (!(a0==a0))
def FX(a0:List UInt8)(r:Bool):AV×WH:=((.bool r),[])
theorem Js(d:Nat){a0:List UInt8}{r:Bool}(h:cmp_isNaN_string a0=some r):Spec (aQ aT (d+1)) 154 [(.str a0)] [] (FX a0 r).1 (FX a0 r).2:=by
 unfold cmp_isNaN_string at h
 exact bK nB aBz h (Fn Fo [] none)
def vD(a0:List UInt8)(a1:List UInt8):Option (Int) :=
 (cmp_isNaN_string a0).bind λ(x1:Bool)=>(cmp_isNaN_string a1).bind λ(x2:Bool)=>cond x1 (cond x2 (some 0) (some (-1))) (cond x2 (some 1) (cond (Op.bytesLess a0 a1) (some (-1)) (cond (!(Op.bytesLess a0 a1||a0==a1)) (some 1) (some 0))))
def Dt(a0:List UInt8)(a1:List UInt8)(r:Int):AV×WH:=((.int .i64 r),[])
theorem Rv(d:Nat){a0:List UInt8}{a1:List UInt8}{r:Int}(h:vD a0 a1=some r):Spec (aQ aT (d+2)) 151 [(.str a0),(.str a1)] [] (Dt a0 a1 r).1 (Dt a0 a1 r).2:=by
 unfold vD at h
 exact bK nB aBx h (.bd λx1 q1=>jw (Js (d+0) q1)<|.bd λx2 q2=>jw (Js (d+0) q2)<|.br 11 (λ_=>.br 12 (λ_=>Fn Fo [] none) λ_=>Fn Fo [] none) λ_=>.br 13 (λ_=>Fn Fo [] none) λ_=>.br 16 (λ_=>Fn Fo [] none) λ_=>.br 19 (λ_=>Fn Fo [] none) λ_=>Fn Fo [] none)
def mK(p:aF)(key:List UInt8):Option (Int) :=
 (vD p.Key key).bind λ(x1:Int)=>some x1
def Du(p:aF)(key:List UInt8)(r:Int):AV×WH:=((.int .i64 r),[])
theorem FY(d:Nat){p:aF}{key:List UInt8}{r:Int}(h:mK p key=some r):Spec (aQ aT (d+3)) 150 [(.agg (u7 p)),(.str key)] [] (Du p key r).1 (Du p key r).2:=by
 unfold mK at h
 exact bK nB aBw h (.bd λx1 q1=>jw (Rv (d+0) q1)<|Fn Fo [] none)
def fG(a0:List aF)(a1:List UInt8)(s3:Int×Int):List AV×WH:=([(dA a0),(.str a1),(.func 150 []),(.int .i64 (a0.length:Int)),(.int .i64 s3.1),(.int .i64 s3.2)],[])
def gK(a0:List aF)(a1:List UInt8):Int→Ex×Fast×WH:=λe=>((.exit 0),[(0,(dA a0)),(1,(.str a1)),(2,(.func 150 [])),(8,(.int .i64 (a0.length:Int))),(9,(.int .i64 e))],[])
abbrev nW(a0:List aF)(a1:List UInt8):=eF [0,1,2,8,9,10] (fG a0 a1) (gK a0 a1)
def eH(a0:List aF)(a1:List UInt8)(s3:Int×Int):Option ((Int×Int)⊕(Int)) :=
 cond (decide (s3.1<s3.2)) ((dH a0 (IntKind.i64.wrap (aek .u64 (IntKind.u64.wrap (IntKind.i64.wrap (s3.1+s3.2))) 1))).bind λ(x4:aF)=>(mK x4 a1).bind λ(x5:Int)=>cond (decide (x5<0)) (some (.inl ((IntKind.i64.wrap ((IntKind.i64.wrap (aek .u64 (IntKind.u64.wrap (IntKind.i64.wrap (s3.1+s3.2))) 1))+1)),s3.2))) (some (.inl (s3.1,(IntKind.i64.wrap (aek .u64 (IntKind.u64.wrap (IntKind.i64.wrap (s3.1+s3.2))) 1)))))) (some (.inr s3.1))
def gY(a0:List aF)(a1:List UInt8)(s3:Int×Int):Option (Int):=dG (eH a0 a1) KK s3
theorem oF(d:Nat){a0:List aF}{a1:List UInt8}{s3:Int×Int}{r:(Int×Int)⊕(Int)}(h:eH a0 a1 s3=some r):dx (bF (aQ aT (d+3)) KK 49 ahs) 0 (jM [0,1,2,8,9,10] (fG a0 a1 s3)) (nW a0 a1 r):=by
 unfold eH at h
 exact bU nB amn h (.br 17 (λ_=>.bd λx4 q4=>Ix bn 27 q4<|.bd λx5 q5=>jw (FY (d+0) q5)<|.br 31 (λ_=>E1 [0,1,2,8,9,10] [none,none,none,none,none,none] [] [.slice none 2 0 0 true,.undef,.undef,.undef,.undef,.undef]) λ_=>E1 [0,1,2,8,9,10] [none,none,none,none,none,none] [] [.slice none 2 0 0 true,.undef,.undef,.undef,.undef,.undef]) λ_=>E1 [0,1,2,8,9] [none,none,none,none,none] [] [.slice none 2 0 0 true,.undef,.undef,.undef,.undef])
theorem oG(d:Nat){a0:List aF}{a1:List UInt8}{s3:Int×Int}{r:Int}(h:gY a0 a1 s3=some r):dx (fQ (bF (aQ aT (d+3)) KK 49 ahs) [0,1,2,8,9,10] KK) 0 (jM [0,1,2,8,9,10] (fG a0 a1 s3)) (gK a0 a1 r) :=
 dS (st:=fG a0 a1) (fin:=gK a0 a1) (step:=eH a0 a1) (λe=>by(intro h;cases h)) (λs x h=>oF d h) KK s3 r h
def fA(a0:List aF)(a1:List UInt8):Option (Int×Bool) :=
 (gY a0 a1 (0,(a0.length:Int))).bind λ(x6:Int)=>cond (decide (x6<(a0.length:Int))) ((dH a0 x6).bind λ(x7:aF)=>(mK x7 a1).bind λ(x8:Int)=>some (x6,(x8==0))) (some (x6,false))
def jo(a0:List aF)(a1:List UInt8)(r:Int×Bool):AV×WH:=((.tuple [(.int .i64 r.1),(.bool r.2)]),[])
theorem qo(d:Nat){a0:List aF}{a1:List UInt8}{r:Int×Bool}(h:fA a0 a1=some r):Spec (aQ aT (d+4)) 149 [(dA a0),(.str a1),(.func 150 [])] [] (jo a0 a1 r).1 (jo a0 a1 r).2:=by
 unfold fA at h
 exact bK nB aBv h (.bd λx6 q6=>Lp [none,none,none,none,none,none] [] [.slice none 2 0 0 true,.undef,.undef,.undef,.undef,.undef] (oG (d+0) q6)<|.br 39 (λ_=>.bd λx7 q7=>Ix bn 43 q7<|.bd λx8 q8=>jw (FY (d+0) q8)<|Fn Fo [] none) λ_=>Fn Fo [] none)
def nS(k:Int)(value:List UInt8)(aV:List aF):Option (List aF) :=
 gd (dR 32 aV.length) ((dH aV k).bind λ(x2:aF)=>some (aV.set k.toNat (⟨x2.Key,value⟩:aF)))
def kC(k:Int)(value:List UInt8)(aV:List aF)(r:List aF):AV×WH:=((.tuple []),[(some (.cells [(.acc 2 0 2 r.length true)] false false)),(some (.cells (aO aV) false true)),(some (.cells (aO r) false true))])
theorem G_(d:Nat){k:Int}{value:List UInt8}{aV:List aF}{r:List aF}(h:nS k value aV=some r):Spec (aQ aT (d+2)) 152 [(.ptr (some (0,0))),(.int .i64 k),(.str value)] [(some (.cells [(.acc 1 0 2 aV.length true)] false false)),(some (.cells (aO aV) false true))] (kC k value aV r).1 (kC k value aV r).2:=by
 unfold nS at h
 exact bK (KG _) aBy h (.gd λq1=>.ob q1<|.st none<|.bd λx2 q2=>Ia bn 20 2 q2<|.st (some (aO (aV.set k.toNat (⟨x2.Key,value⟩:aF))))<|.ob (CS (o:=1) bn q2 rfl:Wq (aO aV) (0+k.toNat*2+1) [(.str value)]=some (aO (aV.set k.toNat (⟨x2.Key,value⟩:aF))))<|.zN (.fin (some false) [] none) _ (λr=>@Eq AV (.tuple []) (kC k value aV r).1∧@Eq WH [(some (.cells [(.acc 2 0 2 aV.length true)] false false)),(some (.cells (aO aV) false true)),(some (.cells (aO (aV.set k.toNat (⟨x2.Key,value⟩:aF))) false true))] (kC k value aV r).2) (by show _∧_;(try rw[show AV.list 2 aV.length (aO (aV.set k.toNat (⟨x2.Key,value⟩:aF))) false=dA (aV.set k.toNat (⟨x2.Key,value⟩:aF))from by simp only[dA,bB]]);refine⟨?_, ?_⟩<;>first | rfl |(simp only[kC,bB,aD,List.length_replicate,bA,bN,bf,aZ,Nat.add_zero,Nat.zero_add];done) | simp[kC]))
def wY(o:bZ)(k:Int)(aV:List aF):Option (aJ×List aF) :=
 (dH aV k).bind λ(x1:aF)=>cond (!(x1.Value==o.Old)) (some ((⟨6,x1.Value⟩:aJ),aV)) ((nS k o.Value aV).bind λ(x2:List aF)=>some ((⟨0,([]:List UInt8)⟩:aJ),x2))
def Eo(o:bZ)(k:Int)(aV:List aF)(r:aJ×List aF):AV×WH:=((.agg (fM r.1)),[(some (.cells [(.acc 2 0 2 r.2.length true)] false false)),none,(some (.cells (aO r.2) false true))])
theorem TG(d:Nat){o:bZ}{k:Int}{aV:List aF}{r:aJ×List aF}(h:wY o k aV=some r):Spec (aQ aT (d+3)) 147 [(.ptr (some (0,0))),(.agg (iy o)),(.int .i64 k)] [(some (.cells [(.acc 1 0 2 aV.length true)] false false)),(some (.cells (aO aV) false true))] (Eo o k aV r).1 (Eo o k aV r).2:=by
 unfold wY at h
 exact bK nB aBu h (.bd λx1 q1=>Ia bn 13 1 q1<|Ld bn 15 false 1 1 q1 (.str x1.Value) rfl<|.br 19 (λ_=>.st none<|Fn Fo [] Tw) λ_=>.bd λx2 q2=>Ye (G_ (d+0) q2)<|.st none<|.kl [1]<|Fn Fo [] Tw)
def vE(key:List UInt8)(aV:List aF):Option (Int×Bool) :=
 (fA aV key).bind λ(x1:Int×Bool)=>some (x1.1,x1.2)
def Dv(key:List UInt8)(aV:List aF)(r:Int×Bool):AV×WH:=((.tuple [(.int .i64 r.1),(.bool r.2)]),[(some (.cells [(.acc 1 0 2 aV.length true)] false false)),(some (.cells (aO aV) false true))])
theorem Rw(d:Nat){key:List UInt8}{aV:List aF}{r:Int×Bool}(h:vE key aV=some r):Spec (aQ aT (d+5)) 145 [(.ptr (some (0,0))),(.str key)] [(some (.cells [(.acc 1 0 2 aV.length true)] false false)),(some (.cells (aO aV) false true))] (Dv key aV r).1 (Dv key aV r).2:=by
 unfold vE at h
 exact bK nB aBs h (.bd λx1 q1=>Cb [.slice none 2 0 0 true] (qo (d+0) q1)<|Fn Fo [] none)
def wZ(o:bZ)(k:Int)(had:Bool)(aV:List aF):Option (aJ×List aF) :=
 cond had ((nS k o.Value aV).bind λ(x1:List aF)=>some ((⟨0,([]:List UInt8)⟩:aJ),x1)) (cond ((aV.length:Int)==8) (some ((⟨5,([]:List UInt8)⟩:aJ),aV)) (gd (dR 32 aV.length) (gd (ak9 32 k aV.length) (some ((⟨0,([]:List UInt8)⟩:aJ),(PV aV k (⟨o.Key,o.Value⟩:aF)))))))
def Ep(o:bZ)(k:Int)(had:Bool)(aV:List aF)(r:aJ×List aF):AV×WH:=((.agg (fM r.1)),[(some (.cells [(.acc 2 0 2 r.2.length true)] false false)),none,(some (.cells (aO r.2) false true))])
theorem TH(d:Nat){o:bZ}{k:Int}{had:Bool}{aV:List aF}{r:aJ×List aF}(h:wZ o k had aV=some r):Spec (aQ aT (d+3)) 146 [(.ptr (some (0,0))),(.agg (iy o)),(.int .i64 k),(.bool had)] [(some (.cells [(.acc 1 0 2 aV.length true)] false false)),(some (.cells (aO aV) false true))] (Ep o k had aV r).1 (Ep o k had aV r).2:=by
 unfold wZ at h
 exact bK (KG _) aBt h (.br 25 (λ_=>.bd λx1 q1=>Ye (G_ (d+0) q1)<|.st none<|.kl [1]<|Fn Fo [] Tw) λ_=>.br 32 (λ_=>.st none<|Fn Fo [] Tw) λ_=>.gd λq2=>.ob q2<|.gd λq3=>.ob (aqw q3:(0≤k∧k≤((aV.length:Nat):Int)))<|.ap 22 (PV aV k (⟨o.Key,o.Value⟩:aF)).length (aO (PV aV k (⟨o.Key,o.Value⟩:aF)))<|.ob (aqx (l:=aV) q3:aV.length+1=(PV aV k (⟨o.Key,o.Value⟩:aF)).length)<|.ob (au9 bn rfl:(aO aV).take (k.toNat*2)++([(.str o.Key),(.str o.Value)]++(aO aV).drop (k.toNat*2))=aO (PV aV k (⟨o.Key,o.Value⟩:aF)))<|.ob (azo (l:=aV) q3:dR 32 (PV aV k (⟨o.Key,o.Value⟩:aF)).length=true)<|.st none<|.st none<|.kl [1]<|Fn Fo [] Tw)
def uw(o:bZ)(aV:List aF):Option (aJ×List aF) :=
 (Cm o).bind λ(x1:Bool)=>cond (!x1) (some ((⟨1,([]:List UInt8)⟩:aJ),aV)) ((vE o.Key aV).bind λ(x2:Int×Bool)=>cond (o.Kind==2) ((wZ o x2.1 x2.2 aV).bind λ(x3:aJ×List aF)=>some (x3.1,x3.2)) (cond (!x2.2) (some ((⟨4,([]:List UInt8)⟩:aJ),aV)) (cond (o.Kind==1) ((dH aV x2.1).bind λ(x4:aF)=>some ((⟨0,x4.Value⟩:aJ),aV)) (cond (o.Kind==4) ((wY o x2.1 aV).bind λ(x5:aJ×List aF)=>some (x5.1,x5.2)) (gd (dR 32 aV.length) (gd (aof x2.1 (IntKind.i64.wrap (x2.1+1)) aV.length) (some ((⟨0,([]:List UInt8)⟩:aJ),(J3 aV x2.1 (IntKind.i64.wrap (x2.1+1)))))))))))
def FZ(o:bZ)(aV:List aF)(r:aJ×List aF):AV×WH:=((.agg (fM r.1)),[(some (.cells [(.acc 2 0 2 r.2.length true)] false false)),none,(some (.cells (aO r.2) false true))])
theorem Vv(d:Nat){o:bZ}{aV:List aF}{r:aJ×List aF}(h:uw o aV=some r):Spec (aQ aT (d+6)) 141 [(.ptr (some (0,0))),(.agg (iy o))] [(some (.cells [(.acc 1 0 2 aV.length true)] false false)),(some (.cells (aO aV) false true))] (FZ o aV r).1 (FZ o aV r).2:=by
 unfold uw at h
 exact bK (KG _) aBo h (.bd λx1 q1=>jw (Uy (d+4) q1)<|.br 9 (λ_=>.st none<|Fn Fo [] Tw) λ_=>.bd λx2 q2=>Ye (Rw (d+0) q2)<|.br 18 (λ_=>.bd λx3 q3=>Ye (TH (d+2) q3)<|.st none<|Fn Fo [] Tw) λ_=>.br 27 (λ_=>.st none<|Fn Fo [] Tw) λ_=>.br 31 (λ_=>.bd λx4 q4=>Ia bn 40 1 q4<|Ld bn 42 false 1 1 q4 (.str x4.Value) rfl<|.st none<|Fn Fo [] Tw) λ_=>.br 44 (λ_=>.bd λx5 q5=>Ye (TG (d+2) q5)<|.st none<|Fn Fo [] Tw) λ_=>.gd λq6=>.ob q6<|.gd λq7=>.ob (ala q7:(0≤x2.1∧x2.1<(IntKind.i64.wrap (x2.1+1))∧(IntKind.i64.wrap (x2.1+1))≤((aV.length:Nat):Int)))<|.ap 61 (J3 aV x2.1 (IntKind.i64.wrap (x2.1+1))).length (aO (J3 aV x2.1 (IntKind.i64.wrap (x2.1+1))))<|.ob (aqy (l:=aV) q7:aV.length-((IntKind.i64.wrap (x2.1+1)).toNat-x2.1.toNat)=(J3 aV x2.1 (IntKind.i64.wrap (x2.1+1))).length)<|.ob (anq bn:(aO aV).take (x2.1.toNat*2)++(aO aV).drop ((IntKind.i64.wrap (x2.1+1)).toNat*2)=aO (J3 aV x2.1 (IntKind.i64.wrap (x2.1+1))))<|.st none<|.st none<|.kl [1]<|Fn Fo [] Tw)
def Dw(p:List aF)(s5:Int×List aF):List AV×WH:=([(.ptr (some (0,0))),(.ptr (some (1,0))),(dA p),(.int .i64 (p.length:Int)),(.int .i64 s5.1)],[(some (.cells [(.acc 2 0 2 0 true)] false false)),(some (.cells [(.acc 3 0 2 s5.2.length true)] false false)),(some (.cells (aO []) false true)),(some (.cells (aO s5.2) false true))])
def GJ(p:List aF):(List aF)→Ex×Fast×WH:=λe=>((.exit 0),[(2,(.ptr (some (0,0)))),(3,(.ptr (some (1,0))))],[(some (.cells [(.acc 2 0 2 0 true)] false false)),(some (.cells [(.acc 3 0 2 e.length true)] false false)),(some (.cells (aO []) false true)),(some (.cells (aO e) false true))])
abbrev adx(p:List aF):=eF [2,3,6,7,8] (Dw p) (GJ p)
def wo(p:List aF)(s5:Int×List aF):Option ((Int×List aF)⊕((List aF))) :=
 cond (decide (s5.1<(p.length:Int))) ((dH p s5.1).bind λ(x6:aF)=>(uw (⟨2,x6.Key,x6.Value,([]:List UInt8)⟩:bZ) s5.2).bind λ(x7:aJ×List aF)=>some (.inl ((IntKind.i64.wrap (s5.1+1)),x7.2))) (some (.inr s5.2))
def Rx(p:List aF)(s5:Int×List aF):Option ((List aF)):=dG (wo p) KK s5
theorem aeR(d:Nat){p:List aF}{s5:Int×List aF}{r:(Int×List aF)⊕((List aF))}(h:wo p s5=some r):dx (bF (aQ aT (d+6)) KK 20 ahn) 0 (jM [2,3,6,7,8] (Dw p s5)) (adx p r):=by
 unfold wo at h
 exact bU nB ami h (.br 9 (λ_=>.bd λx6 q6=>Ix bn 10 q6<|.st none<|.bd λx7 q7=>Ye (Vv (d+0) q7)<|E1 [2,3,6,7,8] [none,none,none,none,none] [] [.undef,.undef,.slice none 2 0 0 true,.undef,.undef]) λ_=>E0 [2,3])
theorem aeS(d:Nat){p:List aF}{s5:Int×List aF}{r:(List aF)}(h:Rx p s5=some r):dx (fQ (bF (aQ aT (d+6)) KK 20 ahn) [2,3,6,7,8] KK) 0 (jM [2,3,6,7,8] (Dw p s5)) (GJ p r) :=
 dS (st:=Dw p) (fin:=GJ p) (step:=wo p) (λe=>by(intro h;cases h)) (λs x h=>aeR d h) KK s5 r h
def Ry(p:List aF):Option (uL) :=
 (Rx p (0,[])).bind λ(x8:(List aF))=>some (⟨x8⟩:uL)
def Xt(p:List aF)(r:uL):AV×WH:=((.agg (aen r)),[])
theorem amy(d:Nat){p:List aF}{r:uL}(h:Ry p=some r):Spec (aQ aT (d+7)) 135 [(dA p)] [] (Xt p r).1 (Xt p r).2:=by
 unfold Ry at h
 exact bK nB aBj h (.z 2 [.slice none 2 0 0 true]<|.z 3 [.slice none 2 0 0 true]<|.bd λx8 q8=>Lp [none,none,none,none,none] [Tw,Tw,Tw,Tw] [.undef,.undef,.slice none 2 0 0 true,.undef,.undef] (aeS (d+0) q8)<|.st none<|Fn Fo [.agg [.slice none 2 0 0 true]] none)
abbrev HZ(bC:aB)(fE:bM):Fast×WH:=([(0,(.ptr (some (0,0)))),(3,(.ptr (some (1,0))))],[(some (.cells (fH fE) false false)),(some (.cells (dM bC) false false))])
def GK(bC:aB)(fE:bM):Unit⊕Unit→Ex×Fast×WH:=fun
 |.inl e=>(.ret,[(4,(.bool false))],[(some (.cells (fH fE) false false))])
 |.inr e=>(.normal,[(0,(.ptr (some (0,0)))),(3,(.ptr (some (1,0))))],[(some (.cells (fH fE) false false)),(some (.cells (dM bC) false false))])
def gB(bC:aB)(fE:bM):Option (Unit⊕Unit) :=
 cond (decide (bC.Client<0)) (some (.inl ())) (cond (decide (bC.Client≥4)) (some (.inl ())) (cond (decide (bC.Seq<1)) (some (.inl ())) ((dH (fE.l.U5) bC.Client).bind λ(x1:aB)=>cond (decide (bC.Seq≤x1.Seq)) (some (.inl ())) (some (.inr ())))))
theorem yt(d:Nat){bC:aB}{fE:bM}{r:Unit⊕Unit}(h:gB bC fE=some r):dx (bF (aQ aT (d+0)) KK 38 ajC) 1 (HZ bC fE) (GK bC fE r):=by
 unfold gB at h
 exact bU nB ajD h (.br 8 (λ_=>E0 [4]) λ_=>.br 13 (λ_=>E0 [4]) λ_=>.br 18 (λ_=>E0 [4]) λ_=>.bd λx1 q1=>.v 26 (.ptr (some (0,0+bC.Client.toNat*4)))<|.ob (aqz q1 rfl:wP (.zU 4 4 (.c (.ptr (some (0,0)))) (.c (.int .i64 bC.Client)))=some (.ptr (some (0,0+bC.Client.toNat*4))))<|.v 28 (.int .i64 x1.Seq)<|.ob (azp (p:=0) (o:=1) dQ q1 rfl rfl:CJ false (0+bC.Client.toNat*4+1) 1 (fH fE)=some (.int .i64 x1.Seq))<|.br 30 (λ_=>E0 [4]) λ_=>E0 [0,3])
def fD(bC:aB)(fE:bM):Option (Bool×bM) :=
 (gB bC fE).bind λ(x2:Unit⊕Unit)=>cond (jY x2) (some (false,fE)) ((dH (fE.l.U5) bC.Client).bind λ(x4:aB)=>some (true,(⟨(fE.l.set bC.Client bC)⟩:bM)))
def zP(bC:aB)(fE:bM)(r:Bool×bM):AV×WH:=((.bool r.1),[(some (.cells (fH r.2) false false))])
theorem Nq(d:Nat){bC:aB}{fE:bM}{r:Bool×bM}(h:fD bC fE=some r):Spec (aQ aT (d+1)) 142 [(.ptr (some (0,0))),(.agg (dM bC))] [(some (.cells (fH fE) false false))] (zP bC fE r).1 (zP bC fE r).2:=by
 unfold fD at h
 exact bK nB aBp h (.sk<|.bd λx2 q2=>.ite (λhb3=>Jn [0,3] [none,none] [] [] (kI (il hb3) (yt (d+0) q2))<|Fn Fo [] none) λhb3=>Jn [0,3] [none,none] [] [] (kI (Ai hb3) (yt (d+0) q2))<|.bd λx4 q4=>.v 37 (.ptr (some (0,0+bC.Client.toNat*4)))<|.ob (aqz q4 rfl:wP (.zU 4 4 (.c (.ptr (some (0,0)))) (.c (.int .i64 bC.Client)))=some (.ptr (some (0,0+bC.Client.toNat*4))))<|.st (some (fH (⟨(fE.l.set bC.Client bC)⟩:bM)))<|.ob (azq (p:=0) (o:=0) dQ q4 (A4.avb _ q4) rfl (Nat.le_of_ble_eq_true rfl) rfl rfl:Wq (fH fE) (0+bC.Client.toNat*4) [(.int .i64 bC.Client),(.int .i64 bC.Seq),(.int .i64 bC.Answer.Why),(.str bC.Answer.Value)]=some (fH (⟨(fE.l.set bC.Client bC)⟩:bM)))<|Fn Fo [] none)
def tY(l:List aB)(s3:Int×bM):List AV×WH:=([(.ptr (some (0,0))),(.ptr (some (1,0))),(dY l),(.int .i64 (l.length:Int)),(.int .i64 s3.1)],[(some (.cells (fH (⟨(⟨(⟨0,0,(⟨0,([]:List UInt8)⟩:aJ)⟩:aB),(⟨0,0,(⟨0,([]:List UInt8)⟩:aJ)⟩:aB),(⟨0,0,(⟨0,([]:List UInt8)⟩:aJ)⟩:aB),(⟨0,0,(⟨0,([]:List UInt8)⟩:aJ)⟩:aB)⟩:A4 aB)⟩:bM)) false false)),(some (.cells (fH s3.2) false false))])
def yu(l:List aB):bM→Ex×Fast×WH:=λe=>((.exit 0),[(2,(.ptr (some (0,0)))),(3,(.ptr (some (1,0))))],[(some (.cells (fH (⟨(⟨(⟨0,0,(⟨0,([]:List UInt8)⟩:aJ)⟩:aB),(⟨0,0,(⟨0,([]:List UInt8)⟩:aJ)⟩:aB),(⟨0,0,(⟨0,([]:List UInt8)⟩:aJ)⟩:aB),(⟨0,0,(⟨0,([]:List UInt8)⟩:aJ)⟩:aB)⟩:A4 aB)⟩:bM)) false false)),(some (.cells (fH e) false false))])
abbrev TI(l:List aB):=eF [2,3,6,7,8] (tY l) (yu l)
def jF(l:List aB)(s3:Int×bM):Option ((Int×bM)⊕(bM)) :=
 cond (decide (s3.1<(l.length:Int))) ((dH l s3.1).bind λ(x4:aB)=>(fD x4 s3.2).bind λ(x5:Bool×bM)=>some (.inl ((IntKind.i64.wrap (s3.1+1)),x5.2))) (some (.inr s3.2))
def zq(l:List aB)(s3:Int×bM):Option (bM):=dG (jF l) KK s3
theorem Vw(d:Nat){l:List aB}{s3:Int×bM}{r:(Int×bM)⊕(bM)}(h:jF l s3=some r):dx (bF (aQ aT (d+1)) KK 16 aho) 0 (jM [2,3,6,7,8] (tY l s3)) (TI l r):=by
 unfold jF at h
 exact bU nB amj h (.br 9 (λ_=>.bd λx4 q4=>Ix dQ 10 q4<|.st none<|.bd λx5 q5=>Cl [] Fo [] (Nq (d+0) q5)<|E1 [2,3,6,7,8] [none,none,none,none,none] [] [.undef,.undef,.slice none 4 0 0 true,.undef,.undef]) λ_=>E0 [2,3])
theorem Vx(d:Nat){l:List aB}{s3:Int×bM}{r:bM}(h:zq l s3=some r):dx (fQ (bF (aQ aT (d+1)) KK 16 aho) [2,3,6,7,8] KK) 0 (jM [2,3,6,7,8] (tY l s3)) (yu l r) :=
 dS (st:=tY l) (fin:=yu l) (step:=jF l) (λe=>by(intro h;cases h)) (λs x h=>Vw d h) KK s3 r h
def o_(l:List aB):Option (bM) :=
 (zq l (0,(⟨(⟨(⟨0,0,(⟨0,([]:List UInt8)⟩:aJ)⟩:aB),(⟨0,0,(⟨0,([]:List UInt8)⟩:aJ)⟩:aB),(⟨0,0,(⟨0,([]:List UInt8)⟩:aJ)⟩:aB),(⟨0,0,(⟨0,([]:List UInt8)⟩:aJ)⟩:aB)⟩:A4 aB)⟩:bM))).bind λ(x6:bM)=>some x6
def KT(l:List aB)(r:bM):AV×WH:=((.agg (fH r)),[])
theorem aaV(d:Nat){l:List aB}{r:bM}(h:o_ l=some r):Spec (aQ aT (d+2)) 136 [(dY l)] [] (KT l r).1 (KT l r).2:=by
 unfold o_ at h
 exact bK nB aBk h (.bd λx6 q6=>Lp [none,none,none,none,none] [] [.undef,.undef,.slice none 4 0 0 true,.undef,.undef] (Vx (d+0) q6)<|.st none<|Fn Fo [] none)
def Jt(bC:aM):Option (eY) :=
 (Ry bC.Pairs).bind λ(x1:uL)=>(o_ bC.fu).bind λ(x2:bM)=>some (⟨x1,x2,bC.fJ,bC.Epoch⟩:eY)
def Xu(bC:aM)(r:eY):AV×WH:=((.agg (oW r)),[])
theorem amA(d:Nat){bC:aM}{r:eY}(h:Jt bC=some r):Spec (aQ aT (d+8)) 116 [(.agg (dB bC))] [] (Xu bC r).1 (Xu bC r).2:=by
 unfold Jt at h
 exact bK nB aA2 h (.z 2 [.slice none 2 0 0 true,.undef,.undef,.undef,.undef,.undef,.undef,.undef,.undef,.undef,.undef,.undef,.undef,.undef,.undef,.undef,.undef,.undef,.undef]<|.bd λx1 q1=>Cl [] Fo [.slice none 2 0 0 true] (amy (d+0) q1)<|.er<|.ob (rfl:@Eq (Option AV) (some (dY bC.fu)) (some (dY bC.fu)))<|.bd λx2 q2=>Cb [.slice none 4 0 0 true] (aaV (d+5) q2)<|.st none<|Fn Fo [.agg [.slice none 2 0 0 true,.undef,.undef,.undef,.undef,.undef,.undef,.undef,.undef,.undef,.undef,.undef,.undef,.undef,.undef,.undef,.undef,.undef,.undef]] none)
def sM(t:eY):Option (List aF) :=
 gd (dR 32 t.Table.l.length) (some t.Table.l)
def Er(t:eY)(r:List aF):AV×WH:=((dA r),[(some (.cells (oW t) false false))])
theorem TJ(d:Nat){t:eY}{r:List aF}(h:sM t=some r):Spec (aQ aT (d+2)) 117 [(.ptr (some (0,0)))] [(some (.cells (oW t) false false))] (Er t r).1 (Er t r).2:=by
 unfold sM at h
 exact bK (KG _) aA3 h (.z 2 [.slice none 2 0 0 true]<|.gd λq1=>.ob q1<|Fn Fo [.slice none 2 0 0 true] none)
def iV(a0:List aF)(a1:List aF)(s3:Int):List AV×WH:=([(dA a0),(dA a1),(.int .i64 (a0.length:Int)),(.int .i64 s3)],[])
def jP(a0:List aF)(a1:List aF):Unit⊕Unit→Ex×Fast×WH:=fun
 |.inl e=>(.ret,[(4,(.bool false))],[])
 |.inr e=>((.exit 0),[],[])
abbrev z8(a0:List aF)(a1:List aF):=eF [0,1,12,13] (iV a0 a1) (jP a0 a1)
def gV(a0:List aF)(a1:List aF)(s3:Int):Option ((Int)⊕(Unit⊕Unit)) :=
 cond (decide (s3<(a0.length:Int))) ((dH a0 s3).bind λ(x4:aF)=>(dH a1 s3).bind λ(x5:aF)=>cond (!(x4.Key==x5.Key&&(x4.Value==x5.Value&&true))) (some (.inr (.inl ()))) (some (.inl (IntKind.i64.wrap (s3+1))))) (some (.inr (.inr ())))
def lu(a0:List aF)(a1:List aF)(s3:Int):Option (Unit⊕Unit):=dG (gV a0 a1) KK s3
theorem Ay(d:Nat){a0:List aF}{a1:List aF}{s3:Int}{r:(Int)⊕(Unit⊕Unit)}(h:gV a0 a1 s3=some r):dx (bF (aQ aT (d+0)) KK 26 al7) 0 (jM [0,1,12,13] (iV a0 a1 s3)) (z8 a0 a1 r):=by
 unfold gV at h
 exact bU nB ao6 h (.br 14 (λ_=>.bd λx4 q4=>Ix bn 18 q4<|.bd λx5 q5=>Ix bn 22 q5<|.br 24 (λ_=>E0 [4]) λ_=>E1 [0,1,12,13] [none,none,none,none] [] [.slice none 2 0 0 true,.slice none 2 0 0 true,.undef,.undef]) λ_=>E0 [])
theorem pq(d:Nat){a0:List aF}{a1:List aF}{s3:Int}{r:Unit⊕Unit}(h:lu a0 a1 s3=some r):dx (fQ (bF (aQ aT (d+0)) KK 26 al7) [0,1,12,13] KK) 0 (jM [0,1,12,13] (iV a0 a1 s3)) (jP a0 a1 r) :=
 dS (st:=iV a0 a1) (fin:=jP a0 a1) (step:=gV a0 a1) (λe=>by rcases e with e | e<;>(intro h;cases h)) (λs x h=>Ay d h) KK s3 r h
def gZ(a0:List aF)(a1:List aF):Option (Bool) :=
 cond ((a0.length:Int) != (a1.length:Int)) (some false) ((lu a0 a1 0).bind λ(x6:Unit⊕Unit)=>cond (jY x6) (some false) (some true))
def qp(a0:List aF)(a1:List aF)(r:Bool):AV×WH:=((.bool r),[])
theorem sN(d:Nat){a0:List aF}{a1:List aF}{r:Bool}(h:gZ a0 a1=some r):Spec (aQ aT (d+1)) 96 [(dA a0),(dA a1)] [] (qp a0 a1 r).1 (qp a0 a1 r).2:=by
 unfold gZ at h
 exact bK nB aDo h (.br 10 (λ_=>Fn Fo [] none) λ_=>.bd λx6 q6=>.ite (λGx=>Lp [none,none,none,none] [] [.slice none 2 0 0 true,.slice none 2 0 0 true,.undef,.undef] (kI (il Gx) (pq (d+0) q6))<|Fn Fo [] none) λGx=>Lp [none,none,none,none] [] [.slice none 2 0 0 true,.slice none 2 0 0 true,.undef,.undef] (kI (Ai Gx) (pq (d+0) q6))<|Fn Fo [] none)
def lK(fE:eY)(s5:Int×List aB):List AV×WH:=([(.acc 1 0 4 s5.2.length true),(.agg (fH fE.eD)),(.int .i64 s5.1)],[(some (.cells (oW fE) false false)),(some (.cells (aW s5.2) false true))])
def oO(fE:eY):(List aB)→Ex×Fast×WH:=λe=>((.exit 0),[(3,(.acc 1 0 4 e.length true))],[(some (.cells (oW fE) false false)),(some (.cells (aW e) false true))])
abbrev Ju(fE:eY):=eF [3,9,10] (lK fE) (oO fE)
def iA(fE:eY)(s5:Int×List aB):Option ((Int×List aB)⊕((List aB))) :=
 cond (decide (s5.1<4)) ((dH ([fE.eD.l.a0,fE.eD.l.a1,fE.eD.l.a2,fE.eD.l.a3]:List aB) s5.1).bind λ(x6:aB)=>cond (decide (x6.Seq>0)) (gd (dR 40 (s5.2++[x6]).length) (some (.inl ((IntKind.i64.wrap (s5.1+1)),(s5.2++[x6]))))) (some (.inl ((IntKind.i64.wrap (s5.1+1)),s5.2)))) (some (.inr s5.2))
def uy(fE:eY)(s5:Int×List aB):Option ((List aB)):=dG (iA fE) KK s5
theorem Kg(d:Nat){fE:eY}{s5:Int×List aB}{r:(Int×List aB)⊕((List aB))}(h:iA fE s5=some r):dx (bF (aQ aT (d+0)) KK 23 ahj) 1 (jM [3,9,10] (lK fE s5)) (Ju fE r):=by
 unfold iA at h
 exact bU nB ame h (.br 11 (λ_=>.bd λx6 q6=>.v 12 (.agg (dM x6))<|.ob (azr dQ q6:wP (.index true 4 4 (.c (.agg (aW ([fE.eD.l.a0,fE.eD.l.a1,fE.eD.l.a2,fE.eD.l.a3])))) (.c (.int .i64 s5.1)))=some (.agg (dM x6)))<|.st none<|.br 15 (λ_=>.gd λq7=>Ap dQ 19 q7<|E1 [3,9,10] [none,none,none] [] [.slice none 4 0 0 true,.undef,.undef]) λ_=>E1 [3,9,10] [none,none,none] [] [.slice none 4 0 0 true,.undef,.undef]) λ_=>E1 [3] [none] [] [.slice none 4 0 0 true])
theorem Kh(d:Nat){fE:eY}{s5:Int×List aB}{r:(List aB)}(h:uy fE s5=some r):dx (fQ (bF (aQ aT (d+0)) KK 23 ahj) [3,9,10] KK) 1 (jM [3,9,10] (lK fE s5)) (oO fE r) :=
 dS (st:=lK fE) (fin:=oO fE) (step:=iA fE) (λe=>by(intro h;cases h)) (λs x h=>Kg d h) KK s5 r h
def nI(fE:eY):Option (List aB) :=
 (uy fE (0,[])).bind λ(x8:(List aB))=>some x8
def Az(fE:eY)(r:List aB):AV×WH:=((dY r),[(some (.cells (oW fE) false false))])
theorem Ou(d:Nat){fE:eY}{r:List aB}(h:nI fE=some r):Spec (aQ aT (d+2)) 118 [(.ptr (some (0,1)))] [(some (.cells (oW fE) false false))] (Az fE r).1 (Az fE r).2:=by
 unfold nI at h
 exact bK (KG _) aA4 h (.z 2 [.slice none 4 0 0 true]<|.z 3 [.slice none 4 0 0 true]<|.bd λx8 q8=>Lp [Tw,none,none] [] [.slice none 4 0 0 true,.undef,.undef] (Kh (d+1) q8)<|Fn Fo [.slice none 4 0 0 true] none)
def iW(a0:List aB)(a1:List aB)(s3:Int):List AV×WH:=([(dY a0),(dY a1),(.int .i64 (a0.length:Int)),(.int .i64 s3)],[])
def jQ(a0:List aB)(a1:List aB):Unit⊕Unit→Ex×Fast×WH:=fun
 |.inl e=>(.ret,[(4,(.bool false))],[])
 |.inr e=>((.exit 0),[],[])
abbrev z_(a0:List aB)(a1:List aB):=eF [0,1,12,13] (iW a0 a1) (jQ a0 a1)
def gW(a0:List aB)(a1:List aB)(s3:Int):Option ((Int)⊕(Unit⊕Unit)) :=
 cond (decide (s3<(a0.length:Int))) ((dH a0 s3).bind λ(x4:aB)=>(dH a1 s3).bind λ(x5:aB)=>cond (!(x4.Client==x5.Client&&(x4.Seq==x5.Seq&&(x4.Answer.Why==x5.Answer.Why&&(x4.Answer.Value==x5.Answer.Value&&true))))) (some (.inr (.inl ()))) (some (.inl (IntKind.i64.wrap (s3+1))))) (some (.inr (.inr ())))
def lC(a0:List aB)(a1:List aB)(s3:Int):Option (Unit⊕Unit):=dG (gW a0 a1) KK s3
theorem AA(d:Nat){a0:List aB}{a1:List aB}{s3:Int}{r:(Int)⊕(Unit⊕Unit)}(h:gW a0 a1 s3=some r):dx (bF (aQ aT (d+0)) KK 26 al8) 0 (jM [0,1,12,13] (iW a0 a1 s3)) (z_ a0 a1 r):=by
 unfold gW at h
 exact bU nB ao8 h (.br 14 (λ_=>.bd λx4 q4=>Ix dQ 18 q4<|.bd λx5 q5=>Ix dQ 22 q5<|.br 24 (λ_=>E0 [4]) λ_=>E1 [0,1,12,13] [none,none,none,none] [] [.slice none 4 0 0 true,.slice none 4 0 0 true,.undef,.undef]) λ_=>E0 [])
theorem pE(d:Nat){a0:List aB}{a1:List aB}{s3:Int}{r:Unit⊕Unit}(h:lC a0 a1 s3=some r):dx (fQ (bF (aQ aT (d+0)) KK 26 al8) [0,1,12,13] KK) 0 (jM [0,1,12,13] (iW a0 a1 s3)) (jQ a0 a1 r) :=
 dS (st:=iW a0 a1) (fin:=jQ a0 a1) (step:=gW a0 a1) (λe=>by rcases e with e | e<;>(intro h;cases h)) (λs x h=>AA d h) KK s3 r h
def g_(a0:List aB)(a1:List aB):Option (Bool) :=
 cond ((a0.length:Int) != (a1.length:Int)) (some false) ((lC a0 a1 0).bind λ(x6:Unit⊕Unit)=>cond (jY x6) (some false) (some true))
def qw(a0:List aB)(a1:List aB)(r:Bool):AV×WH:=((.bool r),[])
theorem sO(d:Nat){a0:List aB}{a1:List aB}{r:Bool}(h:g_ a0 a1=some r):Spec (aQ aT (d+1)) 97 [(dY a0),(dY a1)] [] (qw a0 a1 r).1 (qw a0 a1 r).2:=by
 unfold g_ at h
 exact bK nB aDp h (.br 10 (λ_=>Fn Fo [] none) λ_=>.bd λx6 q6=>.ite (λGx=>Lp [none,none,none,none] [] [.slice none 4 0 0 true,.slice none 4 0 0 true,.undef,.undef] (kI (il Gx) (pE (d+0) q6))<|Fn Fo [] none) λGx=>Lp [none,none,none,none] [] [.slice none 4 0 0 true,.slice none 4 0 0 true,.undef,.undef] (kI (Ai Gx) (pE (d+0) q6))<|Fn Fo [] none)
abbrev Rz(bC:aB):Fast×WH:=([(1,(.ptr (some (0,0)))),(5,(.int .i64 bC.Answer.Why))],[(some (.cells (dM bC) false false))])
def P7(bC:aB):Bool→Ex×Fast×WH:=λe=>(.normal,[(1,(.ptr (some (0,0)))),(6,(.bool e))],[(some (.cells (dM bC) false false))])
def w9(bC:aB):Option (Bool) :=
 cond (bC.Answer.Why==0) (some true) (cond (bC.Answer.Why==4) (some true) (cond (bC.Answer.Why==5) (some true) (some (bC.Answer.Why==6))))
theorem TK(d:Nat){bC:aB}{r:Bool}(h:w9 bC=some r):dx (bF (aQ aT (d+0)) KK 21 Z_) 0 (Rz bC) (P7 bC r):=by
 unfold w9 at h
 exact bU nB acZ h (.br 6 (λ_=>E0 [1,6]) λ_=>.br 6 (λ_=>E0 [1,6]) λ_=>.br 6 (λ_=>E0 [1,6]) λ_=>E0 [1,6])
def yw(bC:aB):Option (Bool) :=
 (w9 bC).bind λ(x1:Bool)=>cond x1 (cond (decide ((bC.Answer.Value.length:Int)≤16)) (some (decide (bC.Seq≤4611686018427387903))) (some false)) (some false)
def Jv(bC:aB)(r:Bool):AV×WH:=((.bool r),[])
theorem Y6(d:Nat){bC:aB}{r:Bool}(h:yw bC=some r):Spec (aQ aT (d+1)) 121 [(.agg (dM bC))] [] (Jv bC r).1 (Jv bC r).2:=by
 unfold yw at h
 exact bK nB aA7 h (.sk<|.sk<|.sk<|.bd λx1 q1=>Jn [1,5] [none,none] [] [] (TK (d+0) q1)<|.br 6 (λ_=>.br 16 (λ_=>Fn Fo [] none) λ_=>Fn Fo [] none) λ_=>Fn Fo [] none)
def Fg(y:aB):Option (Bool) :=
 (yw y).bind λ(x1:Bool)=>some (!x1)
def KU(y:aB)(r:Bool):AV×WH:=((.bool r),[])
theorem aaW(d:Nat){y:aB}{r:Bool}(h:Fg y=some r):Spec (aQ aT (d+2)) 120 [(.agg (dM y))] [] (KU y r).1 (KU y r).2:=by
 unfold Fg at h
 exact bK nB aA6 h (.bd λx1 q1=>jw (Y6 (d+0) q1)<|Fn Fo [] none)
def iq(a0:List aB)(s3:Int):List AV×WH:=([(dY a0),(.func 120 []),(.int .i64 (a0.length:Int)),(.int .i64 s3)],[])
def ji(a0:List aB):Int⊕Unit→Ex×Fast×WH:=fun
 |.inl e=>(.ret,[(4,(.int .i64 e))],[])
 |.inr e=>((.exit 0),[],[])
abbrev wM(a0:List aB):=eF [0,1,7,8] (iq a0) (ji a0)
def eU(a0:List aB)(s3:Int):Option ((Int)⊕(Int⊕Unit)) :=
 cond (decide (s3<(a0.length:Int))) ((dH a0 s3).bind λ(x4:aB)=>(Fg x4).bind λ(x5:Bool)=>cond x5 (some (.inr (.inl s3))) (some (.inl (IntKind.i64.wrap (s3+1))))) (some (.inr (.inr ())))
def jR(a0:List aB)(s3:Int):Option (Int⊕Unit):=dG (eU a0) KK s3
theorem xE(d:Nat){a0:List aB}{s3:Int}{r:(Int)⊕(Int⊕Unit)}(h:eU a0 s3=some r):dx (bF (aQ aT (d+2)) KK 19 ahp) 0 (jM [0,1,7,8] (iq a0 s3)) (wM a0 r):=by
 unfold eU at h
 exact bU nB amk h (.br 9 (λ_=>.bd λx4 q4=>Ix dQ 14 q4<|.bd λx5 q5=>jw (aaW (d+0) q5)<|.br 16 (λ_=>E0 [4]) λ_=>E1 [0,1,7,8] [none,none,none,none] [] [.slice none 4 0 0 true,.undef,.undef,.undef]) λ_=>E0 [])
theorem mR(d:Nat){a0:List aB}{s3:Int}{r:Int⊕Unit}(h:jR a0 s3=some r):dx (fQ (bF (aQ aT (d+2)) KK 19 ahp) [0,1,7,8] KK) 0 (jM [0,1,7,8] (iq a0 s3)) (ji a0 r) :=
 dS (st:=iq a0) (fin:=ji a0) (step:=eU a0) (λe=>by rcases e with e | e<;>(intro h;cases h)) (λs x h=>xE d h) KK s3 r h
def jg(a0:List aB):Option (Int) :=
 (jR a0 0).bind λ(x6:Int⊕Unit)=>cond (jY x6) (some (Bu x6)) (some (-1))
def nJ(a0:List aB)(r:Int):AV×WH:=((.int .i64 r),[])
theorem Aa(d:Nat){a0:List aB}{r:Int}(h:jg a0=some r):Spec (aQ aT (d+3)) 138 [(dY a0),(.func 120 [])] [] (nJ a0 r).1 (nJ a0 r).2:=by
 unfold jg at h
 exact bK nB aBl h (.bd λx6 q6=>.ite (λGx=>Lp [none,none,none,none] [] [.slice none 4 0 0 true,.undef,.undef,.undef] (kI (il Gx) (mR (d+0) q6))<|Fn Fo [] none) λGx=>Lp [none,none,none,none] [] [.slice none 4 0 0 true,.undef,.undef,.undef] (kI (Ai Gx) (mR (d+0) q6))<|Fn Fo [] none)
def gP(a0:List aB):Option (Bool) :=
 (jg a0).bind λ(x1:Int)=>some (decide (x1≥0))
def lZ(a0:List aB)(r:Bool):AV×WH:=((.bool r),[])
theorem xG(d:Nat){a0:List aB}{r:Bool}(h:gP a0=some r):Spec (aQ aT (d+4)) 119 [(dY a0),(.func 120 [])] [] (lZ a0 r).1 (lZ a0 r).2:=by
 unfold gP at h
 exact bK nB aA5 h (.bd λx1 q1=>Cb [.slice none 4 0 0 true] (Aa (d+0) q1)<|Fn Fo [] none)
abbrev Xv(bC:aM):Fast×WH:=([(1,(.ptr (some (0,0))))],[(some (.cells (dB bC) false false))])
def Vy(bC:aM):Unit⊕Unit→Ex×Fast×WH:=fun
 |.inl e=>(.ret,[(2,(.bool false))],[])
 |.inr e=>(.normal,[(1,(.ptr (some (0,0))))],[(some (.cells (dB bC) false false))])
def yx(bC:aM):Option (Unit⊕Unit) :=
 cond (decide (bC.fJ<0)) (some (.inl ())) (cond (decide (bC.fJ≥6)) (some (.inl ())) (cond (decide (bC.Epoch<1)) (some (.inl ())) (cond (decide (bC.Epoch>1099511627776)) (some (.inl ())) (some (.inr ())))))
theorem Nr(d:Nat){bC:aM}{r:Unit⊕Unit}(h:yx bC=some r):dx (bF (aQ aT (d+0)) KK 44 anF) 0 (Xv bC) (Vy bC r):=by
 unfold yx at h
 exact bU nB al2 h (.br 8 (λ_=>E0 [2]) λ_=>.br 13 (λ_=>E0 [2]) λ_=>.br 18 (λ_=>E0 [2]) λ_=>.br 22 (λ_=>E0 [2]) λ_=>E0 [1])
abbrev Xw(x3:eY)(bC:aM):Fast×WH:=([(1,(.ptr (some (0,0)))),(3,(.ptr (some (1,0))))],[(some (.cells (dB bC) false false)),(some (.cells (oW x3) false false))])
def Vz(x3:eY)(bC:aM):Bool→Ex×Fast×WH:=λe=>(.normal,[(1,(.ptr (some (0,0)))),(4,(.bool e))],[(some (.cells (dB bC) false false))])
def qx(x3:eY)(bC:aM):Option (Bool) :=
 (sM x3).bind λ(x4:List aF)=>(gZ x4 bC.Pairs).bind λ(x5:Bool)=>cond x5 ((nI x3).bind λ(x6:List aB)=>(g_ x6 bC.fu).bind λ(x7:Bool)=>some x7) (some false)
theorem Y7(d:Nat){x3:eY}{bC:aM}{r:Bool}(h:qx x3 bC=some r):dx (bF (aQ aT (d+2)) KK 44 afT) 0 (Xw x3 bC) (Vz x3 bC r):=by
 unfold qx at h
 exact bU nB ahb h (.bd λx4 q4=>Cl [] Fo [] (TJ (d+0) q4)<|.er<|.ob (rfl:@Eq (Option AV) (some (dA bC.Pairs)) (some (dA bC.Pairs)))<|.bd λx5 q5=>Cb [.slice none 2 0 0 true,.slice none 2 0 0 true] (sN (d+1) q5)<|.br 30 (λ_=>.bd λx6 q6=>Cl [] Fo [] (Ou (d+0) q6)<|.er<|.ob (rfl:@Eq (Option AV) (some (dY bC.fu)) (some (dY bC.fu)))<|.bd λx7 q7=>Cb [.slice none 4 0 0 true,.slice none 4 0 0 true] (sO (d+1) q7)<|E0 [1,4]) λ_=>E0 [1,4])
def yA(bC:aM):Option (Bool) :=
 (yx bC).bind λ(x1:Unit⊕Unit)=>cond (jY x1) (some false) ((Jt bC).bind λ(x3:eY)=>(qx x3 bC).bind λ(x8:Bool)=>cond x8 ((gP bC.fu).bind λ(x9:Bool)=>some (!x9)) (some false))
def Pk(bC:aM)(r:Bool):AV×WH:=((.bool r),[])
theorem aeT(d:Nat){bC:aM}{r:Bool}(h:yA bC=some r):Spec (aQ aT (d+9)) 90 [(.agg (dB bC))] [] (Pk bC r).1 (Pk bC r).2:=by
 unfold yA at h
 exact bK nB aDk h (.sk<|.bd λx1 q1=>.ite (λhb2=>Jn [1] [none] [] [] (kI (il hb2) (Nr (d+8) q1))<|Fn Fo [] none) λhb2=>Jn [1] [none] [] [] (kI (Ai hb2) (Nr (d+8) q1))<|.bd λx3 q3=>Cl [] Fo [.agg [.undef,.undef,.slice none 2 0 0 true,.slice none 4 0 0 true]] (amA (d+0) q3)<|.z 3 [.slice none 2 0 0 true,.undef,.undef,.undef,.undef,.undef,.undef,.undef,.undef,.undef,.undef,.undef,.undef,.undef,.undef,.undef,.undef,.undef,.undef]<|.st none<|.bd λx8 q8=>Jn [1,3] [none,none] [] [] (Y7 (d+6) q8)<|.br 38 (λ_=>.bd λx9 q9=>Cb [.slice none 4 0 0 true] (xG (d+4) q9)<|Fn Fo [] none) λ_=>Fn Fo [] none)
def mM(bC:aM):Option (Bool) :=
 (Jr bC).bind λ(x1:Bool)=>cond x1 (some true) ((yA bC).bind λ(x2:Bool)=>some x2)
def F3(bC:aM)(r:Bool):AV×WH:=((.bool r),[])
theorem BJ(d:Nat){bC:aM}{r:Bool}(h:mM bC=some r):Spec (aQ aT (d+10)) 51 [(.agg (dB bC))] [] (F3 bC r).1 (F3 bC r).2:=by
 unfold mM at h
 exact bK nB aCL h (.bd λx1 q1=>Cb [.agg [.undef,.undef,.slice none 2 0 0 true,.slice none 4 0 0 true]] (ahI (d+8) q1)<|.br 5 (λ_=>Fn Fo [] none) λ_=>.bd λx2 q2=>Cb [.agg [.undef,.undef,.slice none 2 0 0 true,.slice none 4 0 0 true]] (aeT (d+0) q2)<|Fn Fo [] none)
abbrev aaX(m:aG):Fast×WH:=([(1,(.ptr (some (0,0)))),(3,(.func 43 []))],[(some (.cells (dI m) false false))])
def Y8(m:aG):Bool→Ex×Fast×WH:=λe=>(.normal,[(1,(.ptr (some (0,0)))),(3,(.func 43 [])),(4,(.bool e))],[(some (.cells (dI m) false false))])
def H6(m:aG):Option (Bool) :=
 cond (decide (m.Kind<1)) (some true) (some (decide (m.Kind>10)))
theorem ady(d:Nat){m:aG}{r:Bool}(h:H6 m=some r):dx (bF (aQ aT (d+0)) KK 46 Z7) 0 (aaX m) (Y8 m r):=by
 unfold H6 at h
 exact bU nB acH h (.br 8 (λ_=>E0 [1,3,4]) λ_=>E0 [1,3,4])
abbrev aaY(m:aG):Fast×WH:=([(1,(.ptr (some (0,0)))),(3,(.func 43 []))],[(some (.cells (dI m) false false))])
def Y9(m:aG):Bool→Ex×Fast×WH:=λe=>(.normal,[(1,(.ptr (some (0,0)))),(3,(.func 43 [])),(4,(.bool e))],[(some (.cells (dI m) false false))])
def H7(m:aG):Option (Bool) :=
 (H6 m).bind λ(x1:Bool)=>cond x1 (some true) ((FV m).bind λ(x2:List Int)=>(iL x2).bind λ(x3:Bool)=>some x3)
theorem adz(d:Nat){m:aG}{r:Bool}(h:H7 m=some r):dx (bF (aQ aT (d+4)) KK 46 acG) 0 (aaY m) (Y9 m r):=by
 unfold H7 at h
 exact bU nB aep h (.bd λx1 q1=>Jn [1,3] [none,none] [] [] (ady (d+4) q1)<|.br 4 (λ_=>E0 [1,3,4]) λ_=>.bd λx2 q2=>Cl [] Fo [.agg [.undef,.undef,.undef,.undef,.undef,.undef,.undef,.undef,.undef,.undef,.undef,.undef,.undef,.undef,.undef,.undef,.undef,.slice none 1 0 0 true,.slice none 5 0 0 true,.undef,.undef,.slice none 2 0 0 true,.slice none 4 0 0 true]] (Ot (d+3) q2)<|.bd λx3 q3=>jw (uP (d+0) q3)<|E0 [1,3,4])
abbrev aaZ(m:aG):Fast×WH:=([(1,(.ptr (some (0,0)))),(3,(.func 43 []))],[(some (.cells (dI m) false false))])
def Y_(m:aG):Unit⊕Unit→Ex×Fast×WH:=fun
 |.inl e=>(.ret,[(2,(.bool false))],[])
 |.inr e=>(.normal,[(1,(.ptr (some (0,0))))],[(some (.cells (dI m) false false))])
def H8(m:aG):Option (Unit⊕Unit) :=
 (H7 m).bind λ(x4:Bool)=>cond x4 (some (.inl ())) (cond (decide ((m.Path.length:Int)>5)) (some (.inl ())) (cond (decide ((m.Table.length:Int)>5)) (some (.inl ())) ((iL m.Path).bind λ(x5:Bool)=>cond x5 (some (.inl ())) ((gq m.Table).bind λ(x6:Bool)=>cond x6 (some (.inl ())) (some (.inr ()))))))
theorem RA(d:Nat){m:aG}{r:Unit⊕Unit}(h:H8 m=some r):dx (bF (aQ aT (d+4)) KK 46 ai1) 0 (aaZ m) (Y_ m r):=by
 unfold H8 at h
 exact bU nB ai2 h (.bd λx4 q4=>Jn [1,3] [none,none] [] [] (adz (d+0) q4)<|.br 4 (λ_=>E0 [2]) λ_=>.br 17 (λ_=>E0 [2]) λ_=>.br 17 (λ_=>E0 [2]) λ_=>.bd λx5 q5=>jw (uP (d+0) q5)<|.br 17 (λ_=>E0 [2]) λ_=>.bd λx6 q6=>Cb [.slice none 5 0 0 true] (vV (d+0) q6)<|.br 17 (λ_=>E0 [2]) λ_=>E0 [1])
def Cn(m:aG):Option (Bool) :=
 (H8 m).bind λ(x7:Unit⊕Unit)=>cond (jY x7) (some false) ((qm m.Ef).bind λ(x9:Bool)=>cond x9 ((lJ m.Answer).bind λ(x10:Bool)=>cond x10 ((mM m.qg).bind λ(dV:Bool)=>some dV) (some false)) (some false))
def Uz(m:aG)(r:Bool):AV×WH:=((.bool r),[])
theorem KV(d:Nat){m:aG}{r:Bool}(h:Cn m=some r):Spec (aQ aT (d+11)) 10 [(.agg (dI m))] [] (Uz m r).1 (Uz m r).2:=by
 unfold Cn at h
 exact bK nB aCc h (.sk<|.sk<|.bd λx7 q7=>.ite (λhb8=>Jn [1,3] [none,none] [] [] (kI (il hb8) (RA (d+6) q7))<|Fn Fo [] none) λhb8=>Jn [1,3] [none,none] [] [] (kI (Ai hb8) (RA (d+6) q7))<|.bd λx9 q9=>jw (EK (d+8) q9)<|.br 36 (λ_=>.bd λx10 MG=>jw (zZ (d+9) MG)<|.br 41 (λ_=>.bd λdV J5=>Cb [.agg [.undef,.undef,.slice none 2 0 0 true,.slice none 4 0 0 true]] (BJ (d+0) J5)<|Fn Fo [] none) λ_=>Fn Fo [] none) λ_=>Fn Fo [] none)
abbrev adA(dV:Int)(s10:Int×List UInt8)(n:List Int):Fast×WH:=([(5,(.acc 0 0 1 s10.2.length true)),(7,(.int .i64 dV)),(10,(Lg n)),(11,(.int .i64 (n.length:Int))),(12,(.int .i64 s10.1))],[(some (.cells (PW s10.2) false true))])
def aa0(dV:Int)(s10:Int×List UInt8)(n:List Int):Unit⊕Unit→Ex×Fast×WH:=fun
 |.inl e=>(.ret,[(4,(.slice none 1 0 0 true))],[])
 |.inr e=>(.normal,[(5,(.acc 0 0 1 s10.2.length true)),(7,(.int .i64 dV)),(10,(Lg n)),(11,(.int .i64 (n.length:Int))),(12,(.int .i64 s10.1))],[(some (.cells (PW s10.2) false true))])
def yB(dV:Int)(s10:Int×List UInt8)(n:List Int):Option (Unit⊕Unit) :=
 cond (decide (dV<0)) (some (.inl ())) (cond (decide (dV>4611686018427387903)) (some (.inl ())) (some (.inr ())))
theorem UA(d:Nat){dV:Int}{s10:Int×List UInt8}{n:List Int}{r:Unit⊕Unit}(h:yB dV s10 n=some r):dx (bF (aQ aT (d+0)) KK 41 CV) 0 (adA dV s10 n) (aa0 dV s10 n r):=by
 unfold yB at h
 exact bU nB FJ h (.br 18 (λ_=>E0 [4]) λ_=>.br 21 (λ_=>E0 [4]) λ_=>E0 [5,7,10,11,12])
def Dx(n:List Int)(s10:Int×List UInt8)(s15:Int×List UInt8):List AV×WH:=([(.acc 0 0 1 s15.2.length true),(.int .i64 s15.1),(Lg n),(.int .i64 (n.length:Int)),(.int .i64 s10.1)],[(some (.cells (PW s15.2) false true))])
def GL(n:List Int)(s10:Int×List UInt8):(Int×List UInt8)→Ex×Fast×WH:=λe=>((.exit 2),[(5,(.acc 0 0 1 e.2.length true)),(7,(.int .i64 e.1)),(10,(Lg n)),(11,(.int .i64 (n.length:Int))),(12,(.int .i64 s10.1))],[(some (.cells (PW e.2) false true))])
abbrev adB(n:List Int)(s10:Int×List UInt8):=eF [5,7,10,11,12] (Dx n s10) (GL n s10)
def nA(n:List Int)(s10:Int×List UInt8)(s15:Int×List UInt8):Option ((Int×List UInt8)⊕((Int×List UInt8))) :=
 cond (decide (s15.1>127)) (gd (dR 1 (s15.2++[(Gq (orI .i64 (Ht .i64 s15.1 127) 128))]).length) (some (.inl ((aek .i64 s15.1 7),(s15.2++[(Gq (orI .i64 (Ht .i64 s15.1 127) 128))]))))) (some (.inr (s15.1,s15.2)))
def RB(n:List Int)(s10:Int×List UInt8)(s15:Int×List UInt8):Option ((Int×List UInt8)):=dG (nA n s10) KK s15
theorem aeU(d:Nat){n:List Int}{s10:Int×List UInt8}{s15:Int×List UInt8}{r:(Int×List UInt8)⊕((Int×List UInt8))}(h:nA n s10 s15=some r):dx (bF (aQ aT (d+0)) KK 41 acR) 0 (jM [5,7,10,11,12] (Dx n s10 s15)) (adB n s10 r):=by
 unfold nA at h
 exact bU nB afR h (.br 23 (λ_=>.v 28 (.int .u8 ((Gq (orI .i64 (Ht .i64 s15.1 127) 128)).toNat:Int))<|.ob (agZ _:@Eq (Option AV) (some (.int .u8 (IntKind.u8.wrap (orI .i64 (Ht .i64 s15.1 127) 128)))) (some (.int .u8 ((Gq (orI .i64 (Ht .i64 s15.1 127) 128)).toNat:Int))))<|.gd λq16=>Ap Yf 30 q16<|E0 [5,7,10,11,12]) λ_=>E0 [5,7,10,11,12])
theorem aeV(d:Nat){n:List Int}{s10:Int×List UInt8}{s15:Int×List UInt8}{r:(Int×List UInt8)}(h:RB n s10 s15=some r):dx (fQ (bF (aQ aT (d+0)) KK 41 acR) [5,7,10,11,12] KK) 0 (jM [5,7,10,11,12] (Dx n s10 s15)) (GL n s10 r) :=
 dS (st:=Dx n s10) (fin:=GL n s10) (step:=nA n s10) (λe=>by(intro h;cases h)) (λs x h=>aeU d h) KK s15 r h
def Dy(n:List Int)(s10:Int×List UInt8):List AV×WH:=([(.acc 0 0 1 s10.2.length true),(Lg n),(.int .i64 (n.length:Int)),(.int .i64 s10.1)],[(some (.cells (PW s10.2) false true))])
def GN(n:List Int):Unit⊕(List UInt8)→Ex×Fast×WH:=fun
 |.inl e=>(.ret,[(4,(.slice none 1 0 0 true))],[])
 |.inr e=>((.exit 0),[(5,(.acc 0 0 1 e.length true))],[(some (.cells (PW e) false true))])
abbrev adC(n:List Int):=eF [5,10,11,12] (Dy n) (GN n)
def AB(n:List Int)(s10:Int×List UInt8):Option ((Int×List UInt8)⊕(Unit⊕(List UInt8))) :=
 cond (decide (s10.1<(n.length:Int))) ((dH n s10.1).bind λ(dV:Int)=>(yB dV s10 n).bind λ(dZ:Unit⊕Unit)=>cond (jY dZ) (some (.inr (.inl ()))) ((RB n s10 (dV,s10.2)).bind λ(kJ:(Int×List UInt8))=>gd (dR 1 (kJ.2++[(Gq kJ.1)]).length) (some (.inl ((IntKind.i64.wrap (s10.1+1)),(kJ.2++[(Gq kJ.1)])))))) (some (.inr (.inr s10.2)))
def RD(n:List Int)(s10:Int×List UInt8):Option (Unit⊕(List UInt8)):=dG (AB n) KK s10
theorem aeW(d:Nat){n:List Int}{s10:Int×List UInt8}{r:(Int×List UInt8)⊕(Unit⊕(List UInt8))}(h:AB n s10=some r):dx (bF (aQ aT (d+0)) KK 41 acQ) 0 (jM [5,10,11,12] (Dy n s10)) (adC n r):=by
 unfold AB at h
 exact bU nB afQ h (.br 13 (λ_=>.bd λdV J5=>Ix Lc 14 J5<|.bd λdZ MO=>.ite (λVb=>Jn [5,7,10,11,12] [none,none,none,none,none] [] [] (kI (il Vb) (UA (d+0) MO))<|E0 [4]) λVb=>Jn [5,7,10,11,12] [none,none,none,none,none] [] [] (kI (Ai Vb) (UA (d+0) MO))<|.bd λkJ J4=>Lp [none,none,none,none,none] [] [] (aeV (d+0) J4)<|.v 35 (.int .u8 ((Gq kJ.1).toNat:Int))<|.ob (agZ _:@Eq (Option AV) (some (.int .u8 (IntKind.u8.wrap kJ.1))) (some (.int .u8 ((Gq kJ.1).toNat:Int))))<|.gd λYM=>Ap Yf 37 YM<|E0 [5,10,11,12]) λ_=>E0 [5])
theorem UC(d:Nat){n:List Int}{s10:Int×List UInt8}{r:Unit⊕(List UInt8)}(h:RD n s10=some r):dx (fQ (bF (aQ aT (d+0)) KK 41 acQ) [5,10,11,12] KK) 0 (jM [5,10,11,12] (Dy n s10)) (GN n r) :=
 dS (st:=Dy n) (fin:=GN n) (step:=AB n) (λe=>by rcases e with e | e<;>(intro h;cases h)) (λs x h=>aeW d h) KK s10 r h
def oH(bS:List UInt8)(n:List Int):Option (List UInt8) :=
 gd (dR 1 bS.length) ((RD n (0,bS)).bind λ(qj:Unit⊕(List UInt8))=>cond (jY qj) (some []) (some (Ob qj)))
def Xx(bS:List UInt8)(n:List Int)(r:List UInt8):AV×WH:=((rC r),[])
theorem qy(d:Nat){bS:List UInt8}{n:List Int}{r:List UInt8}(h:oH bS n=some r):Spec (aQ aT (d+2)) 55 [(rC bS),(Lg n)] [] (Xx bS n r).1 (Xx bS n r).2:=by
 unfold oH at h
 exact bK (KG _) aAP h (.gd λq1=>.ob q1<|.bd λqj Uq=>.ite (λamB=>Lp [none,none,none,none] [] [] (kI (il amB) (UC (d+1) Uq))<|Fn Fo [] none) λamB=>Lp [none,none,none,none] [] [] (kI (Ai amB) (UC (d+1) Uq))<|Fn Fo [] none)
def Xy(is:Bool):Option (Int) :=
 cond is (some 1) (some 0)
def aak(is:Bool)(r:Int):AV×WH:=((.int .i64 r),[])
theorem agj(d:Nat){is:Bool}{r:Int}(h:Xy is=some r):Spec (aQ aT (d+1)) 56 [(.bool is)] [] (aak is r).1 (aak is r).2:=by
 unfold Xy at h
 exact bK nB aCP h (.br 3 (λ_=>Fn Fo [] none) λ_=>Fn Fo [] none)
abbrev Za(dV:Int)(s10:Int×List UInt8)(n:List Int):Fast×WH:=([(5,(.acc 0 0 1 s10.2.length true)),(7,(.int .i64 dV)),(10,(Lg n)),(11,(.int .i64 (n.length:Int))),(12,(.int .i64 s10.1))],[(some (.cells (PW s10.2) false true))])
def Xz(dV:Int)(s10:Int×List UInt8)(n:List Int):Unit⊕Unit→Ex×Fast×WH:=fun
 |.inl e=>(.ret,[(4,(.slice none 1 0 0 true))],[])
 |.inr e=>(.normal,[(5,(.acc 0 0 1 s10.2.length true)),(7,(.int .i64 dV)),(10,(Lg n)),(11,(.int .i64 (n.length:Int))),(12,(.int .i64 s10.1))],[(some (.cells (PW s10.2) false true))])
def LY(dV:Int)(s10:Int×List UInt8)(n:List Int):Option (Unit⊕Unit) :=
 cond (decide (dV<0)) (some (.inl ())) (cond (decide (dV>4611686018427387903)) (some (.inl ())) (some (.inr ())))
theorem Pm(d:Nat){dV:Int}{s10:Int×List UInt8}{n:List Int}{r:Unit⊕Unit}(h:LY dV s10 n=some r):dx (bF (aQ aT (d+0)) KK 41 CV) 0 (Za dV s10 n) (Xz dV s10 n r):=by
 unfold LY at h
 exact bU nB FJ h (.br 18 (λ_=>E0 [4]) λ_=>.br 21 (λ_=>E0 [4]) λ_=>E0 [5,7,10,11,12])
def zu(n:List Int)(s10:Int×List UInt8)(s15:Int×List UInt8):List AV×WH:=([(.acc 0 0 1 s15.2.length true),(.int .i64 s15.1),(Lg n),(.int .i64 (n.length:Int)),(.int .i64 s10.1)],[(some (.cells (PW s15.2) false true))])
def Dz(n:List Int)(s10:Int×List UInt8):(Int×List UInt8)→Ex×Fast×WH:=λe=>((.exit 2),[(5,(.acc 0 0 1 e.2.length true)),(7,(.int .i64 e.1)),(10,(Lg n)),(11,(.int .i64 (n.length:Int))),(12,(.int .i64 s10.1))],[(some (.cells (PW e.2) false true))])
abbrev Zb(n:List Int)(s10:Int×List UInt8):=eF [5,7,10,11,12] (zu n s10) (Dz n s10)
def Bd(n:List Int)(s10:Int×List UInt8)(s15:Int×List UInt8):Option ((Int×List UInt8)⊕((Int×List UInt8))) :=
 cond (decide (s15.1>127)) (gd (dR 1 (s15.2++[(Gq (orI .i64 (Ht .i64 s15.1 127) 128))]).length) (some (.inl ((aek .i64 s15.1 7),(s15.2++[(Gq (orI .i64 (Ht .i64 s15.1 127) 128))]))))) (some (.inr (s15.1,s15.2)))
def UD(n:List Int)(s10:Int×List UInt8)(s15:Int×List UInt8):Option ((Int×List UInt8)):=dG (Bd n s10) KK s15
theorem aa1(d:Nat){n:List Int}{s10:Int×List UInt8}{s15:Int×List UInt8}{r:(Int×List UInt8)⊕((Int×List UInt8))}(h:Bd n s10 s15=some r):dx (bF (aQ aT (d+0)) KK 41 acR) 0 (jM [5,7,10,11,12] (zu n s10 s15)) (Zb n s10 r):=by
 unfold Bd at h
 exact bU nB afR h (.br 23 (λ_=>.v 28 (.int .u8 ((Gq (orI .i64 (Ht .i64 s15.1 127) 128)).toNat:Int))<|.ob (agZ _:@Eq (Option AV) (some (.int .u8 (IntKind.u8.wrap (orI .i64 (Ht .i64 s15.1 127) 128)))) (some (.int .u8 ((Gq (orI .i64 (Ht .i64 s15.1 127) 128)).toNat:Int))))<|.gd λq16=>Ap Yf 30 q16<|E0 [5,7,10,11,12]) λ_=>E0 [5,7,10,11,12])
theorem aa2(d:Nat){n:List Int}{s10:Int×List UInt8}{s15:Int×List UInt8}{r:(Int×List UInt8)}(h:UD n s10 s15=some r):dx (fQ (bF (aQ aT (d+0)) KK 41 acR) [5,7,10,11,12] KK) 0 (jM [5,7,10,11,12] (zu n s10 s15)) (Dz n s10 r) :=
 dS (st:=zu n s10) (fin:=Dz n s10) (step:=Bd n s10) (λe=>by(intro h;cases h)) (λs x h=>aa1 d h) KK s15 r h
def zw(n:List Int)(s10:Int×List UInt8):List AV×WH:=([(.acc 0 0 1 s10.2.length true),(Lg n),(.int .i64 (n.length:Int)),(.int .i64 s10.1)],[(some (.cells (PW s10.2) false true))])
def DC(n:List Int):Unit⊕(List UInt8)→Ex×Fast×WH:=fun
 |.inl e=>(.ret,[(4,(.slice none 1 0 0 true))],[])
 |.inr e=>((.exit 0),[(5,(.acc 0 0 1 e.length true))],[(some (.cells (PW e) false true))])
abbrev Zc(n:List Int):=eF [5,10,11,12] (zw n) (DC n)
def Bf(n:List Int)(s10:Int×List UInt8):Option ((Int×List UInt8)⊕(Unit⊕(List UInt8))) :=
 cond (decide (s10.1<(n.length:Int))) ((dH n s10.1).bind λ(dV:Int)=>(LY dV s10 n).bind λ(dZ:Unit⊕Unit)=>cond (jY dZ) (some (.inr (.inl ()))) ((UD n s10 (dV,s10.2)).bind λ(kJ:(Int×List UInt8))=>gd (dR 1 (kJ.2++[(Gq kJ.1)]).length) (some (.inl ((IntKind.i64.wrap (s10.1+1)),(kJ.2++[(Gq kJ.1)])))))) (some (.inr (.inr s10.2)))
def UE(n:List Int)(s10:Int×List UInt8):Option (Unit⊕(List UInt8)):=dG (Bf n) KK s10
theorem aa3(d:Nat){n:List Int}{s10:Int×List UInt8}{r:(Int×List UInt8)⊕(Unit⊕(List UInt8))}(h:Bf n s10=some r):dx (bF (aQ aT (d+0)) KK 41 acQ) 0 (jM [5,10,11,12] (zw n s10)) (Zc n r):=by
 unfold Bf at h
 exact bU nB afQ h (.br 13 (λ_=>.bd λdV J5=>Ix Lc 14 J5<|.bd λdZ MO=>.ite (λVb=>Jn [5,7,10,11,12] [none,none,none,none,none] [] [] (kI (il Vb) (Pm (d+0) MO))<|E0 [4]) λVb=>Jn [5,7,10,11,12] [none,none,none,none,none] [] [] (kI (Ai Vb) (Pm (d+0) MO))<|.bd λkJ J4=>Lp [none,none,none,none,none] [] [] (aa2 (d+0) J4)<|.v 35 (.int .u8 ((Gq kJ.1).toNat:Int))<|.ob (agZ _:@Eq (Option AV) (some (.int .u8 (IntKind.u8.wrap kJ.1))) (some (.int .u8 ((Gq kJ.1).toNat:Int))))<|.gd λYM=>Ap Yf 37 YM<|E0 [5,10,11,12]) λ_=>E0 [5])
theorem Pn(d:Nat){n:List Int}{s10:Int×List UInt8}{r:Unit⊕(List UInt8)}(h:UE n s10=some r):dx (fQ (bF (aQ aT (d+0)) KK 41 acQ) [5,10,11,12] KK) 0 (jM [5,10,11,12] (zw n s10)) (DC n r) :=
 dS (st:=zw n) (fin:=DC n) (step:=Bf n) (λe=>by rcases e with e | e<;>(intro h;cases h)) (λs x h=>aa3 d h) KK s10 r h
def Jw(bS:List UInt8)(n:List Int):Option (List UInt8) :=
 gd (dR 1 bS.length) ((UE n (0,bS)).bind λ(qj:Unit⊕(List UInt8))=>cond (jY qj) (some []) (some (Ob qj)))
def uz(bS:List UInt8)(n:List Int)(r:List UInt8):AV×WH:=((.acc 0 0 1 r.length true),[(some (.cells (PW r) false true))])
theorem ahJ(d:Nat){bS:List UInt8}{n:List Int}{r:List UInt8}(h:Jw bS n=some r):Spec (aQ aT (d+2)) 55 [(rC bS),(Lg n)] [] (uz bS n r).1 (uz bS n r).2:=by
 unfold Jw at h
 exact bK (KG _) aAP h (.gd λq1=>.ob q1<|.bd λqj Uq=>.ite (λamB=>Lp [none,none,none,none] [] [] (kI (il amB) (Pn (d+1) Uq))<|.zN (.fin (some true) [] none) _ (λr=>@Eq AV (.acc 0 0 1 0 true) (uz bS n r).1∧@Eq WH [(some (.cells (PW []) false true))] (uz bS n r).2) (by show _∧_;refine⟨?_, ?_⟩<;>first | rfl |(simp only[uz,bB,aD,List.length_replicate,bA,bN,bf,aZ,Nat.add_zero,Nat.zero_add];done) | simp[uz])) λamB=>Lp [none,none,none,none] [] [] (kI (Ai amB) (Pn (d+1) Uq))<|Fn Tw [] none)
def Bg(fE:List (List UInt8))(s5:Int×List UInt8):List AV×WH:=([(.acc 0 0 1 s5.2.length true),(l_S fE),(.int .i64 (fE.length:Int)),(.int .i64 s5.1)],[(some (.cells (PW s5.2) false true))])
def EL(fE:List (List UInt8)):(List UInt8)→Ex×Fast×WH:=λe=>((.exit 0),[(5,(.acc 0 0 1 e.length true))],[(some (.cells (PW e) false true))])
abbrev aa4(fE:List (List UInt8)):=eF [5,10,11,12] (Bg fE) (EL fE)
def yC(fE:List (List UInt8))(s5:Int×List UInt8):Option ((Int×List UInt8)⊕((List UInt8))) :=
 cond (decide (s5.1<(fE.length:Int))) ((dH fE s5.1).bind λ(x6:List UInt8)=>(Jw s5.2 ([(x6.length:Int)])).bind λ(x7:List UInt8)=>gd (dR 1 (x7++x6).length) (some (.inl ((IntKind.i64.wrap (s5.1+1)),(x7++x6))))) (some (.inr s5.2))
def Ov(fE:List (List UInt8))(s5:Int×List UInt8):Option ((List UInt8)):=dG (yC fE) KK s5
theorem adD(d:Nat){fE:List (List UInt8)}{s5:Int×List UInt8}{r:(Int×List UInt8)⊕((List UInt8))}(h:yC fE s5=some r):dx (bF (aQ aT (d+2)) KK 26 al6) 0 (jM [5,10,11,12] (Bg fE s5)) (aa4 fE r):=by
 unfold yC at h
 exact bU nB ao4 h (.br 13 (λ_=>.bd λx6 q6=>Ix R_S 14 q6<|.bd λx7 q7=>Cl [] Fo [] (ahJ (d+0) q7)<|.gd λq8=>Ap Yf 22 q8<|E0 [5,10,11,12]) λ_=>E0 [5])
theorem adE(d:Nat){fE:List (List UInt8)}{s5:Int×List UInt8}{r:(List UInt8)}(h:Ov fE s5=some r):dx (fQ (bF (aQ aT (d+2)) KK 26 al6) [5,10,11,12] KK) 0 (jM [5,10,11,12] (Bg fE s5)) (EL fE r) :=
 dS (st:=Bg fE) (fin:=EL fE) (step:=yC fE) (λe=>by(intro h;cases h)) (λs x h=>adD d h) KK s5 r h
def EM(bS:List UInt8)(fE:List (List UInt8)):Option (List UInt8) :=
 gd (dR 1 bS.length) ((Ov fE (0,bS)).bind λ(x9:(List UInt8))=>some x9)
def UF(bS:List UInt8)(fE:List (List UInt8))(r:List UInt8):AV×WH:=((rC r),[])
theorem RF(d:Nat){bS:List UInt8}{fE:List (List UInt8)}{r:List UInt8}(h:EM bS fE=some r):Spec (aQ aT (d+3)) 95 [(rC bS),(l_S fE)] [] (UF bS fE r).1 (UF bS fE r).2:=by
 unfold EM at h
 exact bK (KG _) aDn h (.gd λq1=>.ob q1<|.bd λx9 q9=>Lp [none,none,none,none] [] [] (adE (d+0) q9)<|Fn Fo [] none)
def DF(bS:List UInt8)(p_r:bJ):Option (List UInt8) :=
 (qm p_r).bind λ(x1:Bool)=>cond (!x1) (some []) ((oH bS ([p_r.Client,p_r.Seq,p_r.Op.Kind])).bind λ(x2:List UInt8)=>(EM x2 ([p_r.Op.Key,p_r.Op.Value,p_r.Op.Old])).bind λ(x3:List UInt8)=>some x3)
def Ns(bS:List UInt8)(p_r:bJ)(r:List UInt8):AV×WH:=((rC r),[])
theorem adF(d:Nat){bS:List UInt8}{p_r:bJ}{r:List UInt8}(h:DF bS p_r=some r):Spec (aQ aT (d+4)) 58 [(rC bS),(.agg (wh p_r))] [] (Ns bS p_r r).1 (Ns bS p_r r).2:=by
 unfold DF at h
 exact bK nB aCR h (.bd λx1 q1=>jw (EK (d+1) q1)<|.br 7 (λ_=>Fn Fo [] none) λ_=>.bd λx2 q2=>Cl [] Fo [] (qy (d+1) q2)<|.bd λx3 q3=>Cl [] Fo [] (RF (d+0) q3)<|Fn Fo [] none)
def rZ(bS:List UInt8)(a:aJ):Option (List UInt8) :=
 (lJ a).bind λ(x1:Bool)=>cond (!x1) (some []) ((oH bS [a.Why]).bind λ(x2:List UInt8)=>(EM x2 [a.Value]).bind λ(x3:List UInt8)=>some x3)
def He(bS:List UInt8)(a:aJ)(r:List UInt8):AV×WH:=((rC r),[])
theorem KW(d:Nat){bS:List UInt8}{a:aJ}{r:List UInt8}(h:rZ bS a=some r):Spec (aQ aT (d+4)) 57 [(rC bS),(.agg (fM a))] [] (He bS a r).1 (He bS a r).2:=by
 unfold rZ at h
 exact bK nB aCQ h (.bd λx1 q1=>jw (zZ (d+2) q1)<|.br 7 (λ_=>Fn Fo [] none) λ_=>.bd λx2 q2=>Cl [] Fo [] (qy (d+1) q2)<|.bd λx3 q3=>Cl [] Fo [] (RF (d+0) q3)<|Fn Fo [] none)
def sP(bC:aM)(s5:List UInt8×Int):List AV×WH:=([(.ptr (some (0,0))),(rC s5.1),(dA bC.Pairs),(.int .i64 (bC.Pairs.length:Int)),(.int .i64 s5.2)],[(some (.cells (dB bC) false false))])
def wO(bC:aM):(List UInt8)→Ex×Fast×WH:=λe=>((.exit 0),[(3,(.ptr (some (0,0)))),(5,(rC e))],[(some (.cells (dB bC) false false))])
abbrev RG(bC:aM):=eF [3,5,24,25,26] (sP bC) (wO bC)
def lU(bC:aM)(s5:List UInt8×Int):Option ((List UInt8×Int)⊕((List UInt8))) :=
 cond (decide (s5.2<(bC.Pairs.length:Int))) ((dH bC.Pairs s5.2).bind λ(x6:aF)=>(EM s5.1 ([x6.Key,x6.Value])).bind λ(x7:List UInt8)=>some (.inl (x7,(IntKind.i64.wrap (s5.2+1))))) (some (.inr s5.1))
def w_(bC:aM)(s5:List UInt8×Int):Option ((List UInt8)):=dG (lU bC) KK s5
theorem TL(d:Nat){bC:aM}{s5:List UInt8×Int}{r:(List UInt8×Int)⊕((List UInt8))}(h:lU bC s5=some r):dx (bF (aQ aT (d+3)) KK 63 alL) 0 (jM [3,5,24,25,26] (sP bC s5)) (RG bC r):=by
 unfold lU at h
 exact bU nB aoH h (.br 27 (λ_=>.bd λx6 q6=>Ix bn 28 q6<|.st none<|.bd λx7 q7=>Cl [] Fo [] (RF (d+0) q7)<|E1 [3,5,24,25,26] [none,none,none,none,none] [] [.undef,.undef,.slice none 2 0 0 true,.undef,.undef]) λ_=>E0 [3,5])
theorem TM(d:Nat){bC:aM}{s5:List UInt8×Int}{r:(List UInt8)}(h:w_ bC s5=some r):dx (fQ (bF (aQ aT (d+3)) KK 63 alL) [3,5,24,25,26] KK) 0 (jM [3,5,24,25,26] (sP bC s5)) (wO bC r) :=
 dS (st:=sP bC) (fin:=wO bC) (step:=lU bC) (λe=>by(intro h;cases h)) (λs x h=>TL d h) KK s5 r h
def sQ(bC:aM)(s13:List UInt8×Int):List AV×WH:=([(rC s13.1),(dY bC.fu),(.int .i64 (bC.fu.length:Int)),(.int .i64 s13.2)],[])
def wQ(bC:aM):(List UInt8)→Ex×Fast×WH:=λe=>((.exit 2),[(5,(rC e))],[])
abbrev RH(bC:aM):=eF [5,45,46,47] (sQ bC) (wQ bC)
def lV(bC:aM)(s13:List UInt8×Int):Option ((List UInt8×Int)⊕((List UInt8))) :=
 cond (decide (s13.2<(bC.fu.length:Int))) ((dH bC.fu s13.2).bind λ(nO:aB)=>(oH s13.1 ([nO.Client,nO.Seq])).bind λ(dP:List UInt8)=>(rZ dP nO.Answer).bind λ(Bz:List UInt8)=>some (.inl (Bz,(IntKind.i64.wrap (s13.2+1))))) (some (.inr s13.1))
def xg(bC:aM)(s13:List UInt8×Int):Option ((List UInt8)):=dG (lV bC) KK s13
theorem TN(d:Nat){bC:aM}{s13:List UInt8×Int}{r:(List UInt8×Int)⊕((List UInt8))}(h:lV bC s13=some r):dx (bF (aQ aT (d+4)) KK 63 alM) 0 (jM [5,45,46,47] (sQ bC s13)) (RH bC r):=by
 unfold lV at h
 exact bU nB aoI h (.br 48 (λ_=>.bd λnO PZ=>Ix dQ 49 PZ<|.st none<|.bd λdP Md=>Cl [] Fo [] (qy (d+2) Md)<|.bd λBz q16=>Cl [] Fo [] (KW (d+0) q16)<|E1 [5,45,46,47] [none,none,none,none] [] [.undef,.slice none 4 0 0 true,.undef,.undef]) λ_=>E0 [5])
theorem TP(d:Nat){bC:aM}{s13:List UInt8×Int}{r:(List UInt8)}(h:xg bC s13=some r):dx (fQ (bF (aQ aT (d+4)) KK 63 alM) [5,45,46,47] KK) 0 (jM [5,45,46,47] (sQ bC s13)) (wQ bC r) :=
 dS (st:=sQ bC) (fin:=wQ bC) (step:=lV bC) (λe=>by(intro h;cases h)) (λs x h=>TN d h) KK s13 r h
def yD(bS:List UInt8)(bC:aM):Option (List UInt8) :=
 (mM bC).bind λ(x1:Bool)=>cond (!x1) (some []) ((oH bS ([bC.fJ,bC.Epoch,(bC.Pairs.length:Int)])).bind λ(x2:List UInt8)=>(w_ bC (x2,0)).bind λ(x8:(List UInt8))=>(oH x8 ([(bC.fu.length:Int)])).bind λ(x9:List UInt8)=>(xg bC (x9,0)).bind λ(kJ:(List UInt8))=>some kJ)
def Jy(bS:List UInt8)(bC:aM)(r:List UInt8):AV×WH:=((rC r),[])
theorem Zd(d:Nat){bS:List UInt8}{bC:aM}{r:List UInt8}(h:yD bS bC=some r):Spec (aQ aT (d+11)) 59 [(rC bS),(.agg (dB bC))] [] (Jy bS bC r).1 (Jy bS bC r).2:=by
 unfold yD at h
 exact bK nB aCS h (.bd λx1 q1=>Cb [.agg [.undef,.undef,.slice none 2 0 0 true,.slice none 4 0 0 true]] (BJ (d+0) q1)<|.br 12 (λ_=>Fn Fo [] none) λ_=>.bd λx2 q2=>Cl [] Fo [] (qy (d+8) q2)<|.bd λx8 q8=>Lp [none,none,none,none,none] [] [.undef,.undef,.slice none 2 0 0 true,.undef,.undef] (TM (d+7) q8)<|.bd λx9 q9=>Cl [] Fo [] (qy (d+8) q9)<|.bd λkJ J4=>Lp [none,none,none,none] [] [.undef,.slice none 4 0 0 true,.undef,.undef] (TP (d+6) J4)<|Fn Fo [] none)
def Fh(m:aG)(tV:List UInt8×Int):List AV×WH:=([(.ptr (some (0,0))),(rC tV.1),(fK m.Table),(.int .i64 (m.Table.length:Int)),(.int .i64 tV.2)],[(some (.cells (dI m) false false))])
def Jz(m:aG):(List UInt8)→Ex×Fast×WH:=λe=>((.exit 0),[(1,(.ptr (some (0,0)))),(3,(rC e))],[(some (.cells (dI m) false false))])
abbrev aeX(m:aG):=eF [1,3,40,41,42] (Fh m) (Jz m)
def zy(m:aG)(tV:List UInt8×Int):Option ((List UInt8×Int)⊕((List UInt8))) :=
 cond (decide (tV.2<(m.Table.length:Int))) ((dH m.Table tV.2).bind λ(dP:aI)=>(Xy dP.fq).bind λ(Bz:Int)=>(oH tV.1 ([dP.Inc,dP.Status,dP.rG,dP.Load,Bz])).bind λ(kJ:List UInt8)=>some (.inl (kJ,(IntKind.i64.wrap (tV.2+1))))) (some (.inr tV.1))
def Ow(m:aG)(tV:List UInt8×Int):Option ((List UInt8)):=dG (zy m) KK tV
theorem ahK(d:Nat){m:aG}{tV:List UInt8×Int}{r:(List UInt8×Int)⊕((List UInt8))}(h:zy m tV=some r):dx (bF (aQ aT (d+2)) KK 65 alm) 0 (jM [1,3,40,41,42] (Fh m tV)) (aeX m r):=by
 unfold zy at h
 exact bU nB aos h (.br 43 (λ_=>.bd λdP Md=>Ix lX 44 Md<|.st none<|.bd λBz q16=>jw (agj (d+1) q16)<|.bd λkJ J4=>Cl [] Fo [] (qy (d+0) J4)<|E1 [1,3,40,41,42] [none,none,none,none,none] [] [.undef,.undef,.slice none 5 0 0 true,.undef,.undef]) λ_=>E0 [1,3])
theorem ahL(d:Nat){m:aG}{tV:List UInt8×Int}{r:(List UInt8)}(h:Ow m tV=some r):dx (fQ (bF (aQ aT (d+2)) KK 65 alm) [1,3,40,41,42] KK) 0 (jM [1,3,40,41,42] (Fh m tV)) (Jz m r) :=
 dS (st:=Fh m) (fin:=Jz m) (step:=zy m) (λe=>by(intro h;cases h)) (λs x h=>ahK d h) KK tV r h
def Ta(m:aG):Option (List UInt8) :=
 (Cn m).bind λ(x1:Bool)=>cond (!x1) (some []) ((FV m).bind λ(x2:List Int)=>(oH [] x2).bind λ(x3:List UInt8)=>(Xy m.fq).bind λ(x4:Int)=>(oH x3 [x4]).bind λ(x5:List UInt8)=>(DF x5 m.Ef).bind λ(x6:List UInt8)=>(rZ x6 m.Answer).bind λ(x7:List UInt8)=>(oH x7 ([(m.Path.length:Int)])).bind λ(x8:List UInt8)=>(oH x8 m.Path).bind λ(x9:List UInt8)=>(oH x9 ([(m.Table.length:Int)])).bind λ(x10:List UInt8)=>(Ow m (x10,0)).bind λ(x18:(List UInt8))=>(yD x18 m.qg).bind λ(qj:List UInt8)=>some qj)
def aal(m:aG)(r:List UInt8):AV×WH:=((rC r),[])
theorem agk(d:Nat){m:aG}{r:List UInt8}(h:Ta m=some r):Spec (aQ aT (d+12)) 12 [(.agg (dI m))] [] (aal m r).1 (aal m r).2:=by
 unfold Ta at h
 exact bK nB aCe h (.bd λx1 q1=>Cb [.agg [.undef,.undef,.undef,.undef,.undef,.undef,.undef,.undef,.undef,.undef,.undef,.undef,.undef,.undef,.undef,.undef,.undef,.slice none 1 0 0 true,.slice none 5 0 0 true,.undef,.undef,.slice none 2 0 0 true,.slice none 4 0 0 true]] (KV (d+0) q1)<|.br 8 (λ_=>Fn Fo [] none) λ_=>.bd λx2 q2=>Cl [] Fo [.agg [.undef,.undef,.undef,.undef,.undef,.undef,.undef,.undef,.undef,.undef,.undef,.undef,.undef,.undef,.undef,.undef,.undef,.slice none 1 0 0 true,.slice none 5 0 0 true,.undef,.undef,.slice none 2 0 0 true,.slice none 4 0 0 true]] (Ot (d+10) q2)<|.bd λx3 q3=>Cl [] Fo [] (qy (d+9) q3)<|.bd λx4 q4=>jw (agj (d+10) q4)<|.bd λx5 q5=>Cl [] Fo [] (qy (d+9) q5)<|.bd λx6 q6=>Cl [] Fo [] (adF (d+7) q6)<|.bd λx7 q7=>Cl [] Fo [] (KW (d+7) q7)<|.bd λx8 q8=>Cl [] Fo [] (qy (d+9) q8)<|.er<|.ob (rfl:@Eq (Option AV) (some (Lg m.Path)) (some (Lg m.Path)))<|.bd λx9 q9=>Cl [] Fo [] (qy (d+9) q9)<|.bd λx10 MG=>Cl [] Fo [] (qy (d+9) MG)<|.bd λx18 YM=>Lp [none,none,none,none,none] [] [.undef,.undef,.slice none 5 0 0 true,.undef,.undef] (ahL (d+9) YM)<|.bd λqj Uq=>Cl [] Fo [.undef,.agg [.undef,.undef,.slice none 2 0 0 true,.slice none 4 0 0 true]] (Zd (d+0) Uq)<|Fn Fo [] none)
def lM(a0:List Int)(a1:List Int)(s3:Int):List AV×WH:=([(Lg a0),(Lg a1),(.int .i64 (a0.length:Int)),(.int .i64 s3)],[])
def oQ(a0:List Int)(a1:List Int):Unit⊕Unit→Ex×Fast×WH:=fun
 |.inl e=>(.ret,[(4,(.bool false))],[])
 |.inr e=>((.exit 0),[],[])
abbrev JA(a0:List Int)(a1:List Int):=eF [0,1,12,13] (lM a0 a1) (oQ a0 a1)
def mg(a0:List Int)(a1:List Int)(s3:Int):Option ((Int)⊕(Unit⊕Unit)) :=
 cond (decide (s3<(a0.length:Int))) ((dH a0 s3).bind λ(x4:Int)=>(dH a1 s3).bind λ(x5:Int)=>cond (x4 != x5) (some (.inr (.inl ()))) (some (.inl (IntKind.i64.wrap (s3+1))))) (some (.inr (.inr ())))
def Co(a0:List Int)(a1:List Int)(s3:Int):Option (Unit⊕Unit):=dG (mg a0 a1) KK s3
theorem Ki(d:Nat){a0:List Int}{a1:List Int}{s3:Int}{r:(Int)⊕(Unit⊕Unit)}(h:mg a0 a1 s3=some r):dx (bF (aQ aT (d+0)) KK 26 alN) 0 (jM [0,1,12,13] (lM a0 a1 s3)) (JA a0 a1 r):=by
 unfold mg at h
 exact bU nB aoK h (.br 14 (λ_=>.bd λx4 q4=>Ix Lc 18 q4<|.bd λx5 q5=>Ix Lc 22 q5<|.br 24 (λ_=>E0 [4]) λ_=>E0 [0,1,12,13]) λ_=>E0 [])
theorem zQ(d:Nat){a0:List Int}{a1:List Int}{s3:Int}{r:Unit⊕Unit}(h:Co a0 a1 s3=some r):dx (fQ (bF (aQ aT (d+0)) KK 26 alN) [0,1,12,13] KK) 0 (jM [0,1,12,13] (lM a0 a1 s3)) (oQ a0 a1 r) :=
 dS (st:=lM a0 a1) (fin:=oQ a0 a1) (step:=mg a0 a1) (λe=>by rcases e with e | e<;>(intro h;cases h)) (λs x h=>Ki d h) KK s3 r h
def sS(a0:List Int)(a1:List Int):Option (Bool) :=
 cond ((a0.length:Int) != (a1.length:Int)) (some false) ((Co a0 a1 0).bind λ(x6:Unit⊕Unit)=>cond (jY x6) (some false) (some true))
def AJ(a0:List Int)(a1:List Int)(r:Bool):AV×WH:=((.bool r),[])
theorem DJ(d:Nat){a0:List Int}{a1:List Int}{r:Bool}(h:sS a0 a1=some r):Spec (aQ aT (d+1)) 60 [(Lg a0),(Lg a1)] [] (AJ a0 a1 r).1 (AJ a0 a1 r).2:=by
 unfold sS at h
 exact bK nB aCT h (.br 10 (λ_=>Fn Fo [] none) λ_=>.bd λx6 q6=>.ite (λGx=>Lp [none,none,none,none] [] [] (kI (il Gx) (zQ (d+0) q6))<|Fn Fo [] none) λGx=>Lp [none,none,none,none] [] [] (kI (Ai Gx) (zQ (d+0) q6))<|Fn Fo [] none)
def iD(a0:List aI)(a1:List aI)(s3:Int):List AV×WH:=([(fK a0),(fK a1),(.int .i64 (a0.length:Int)),(.int .i64 s3)],[])
def jA(a0:List aI)(a1:List aI):Unit⊕Unit→Ex×Fast×WH:=fun
 |.inl e=>(.ret,[(4,(.bool false))],[])
 |.inr e=>((.exit 0),[],[])
abbrev yE(a0:List aI)(a1:List aI):=eF [0,1,12,13] (iD a0 a1) (jA a0 a1)
def iM(a0:List aI)(a1:List aI)(s3:Int):Option ((Int)⊕(Unit⊕Unit)) :=
 cond (decide (s3<(a0.length:Int))) ((dH a0 s3).bind λ(x4:aI)=>(dH a1 s3).bind λ(x5:aI)=>cond (!(x4.Inc==x5.Inc&&(x4.Status==x5.Status&&(x4.rG==x5.rG&&(x4.Load==x5.Load&&(x4.fq==x5.fq&&true)))))) (some (.inr (.inl ()))) (some (.inl (IntKind.i64.wrap (s3+1))))) (some (.inr (.inr ())))
def pF(a0:List aI)(a1:List aI)(s3:Int):Option (Unit⊕Unit):=dG (iM a0 a1) KK s3
theorem zA(d:Nat){a0:List aI}{a1:List aI}{s3:Int}{r:(Int)⊕(Unit⊕Unit)}(h:iM a0 a1 s3=some r):dx (bF (aQ aT (d+0)) KK 26 alO) 0 (jM [0,1,12,13] (iD a0 a1 s3)) (yE a0 a1 r):=by
 unfold iM at h
 exact bU nB aoM h (.br 14 (λ_=>.bd λx4 q4=>Ix lX 18 q4<|.bd λx5 q5=>Ix lX 22 q5<|.br 24 (λ_=>E0 [4]) λ_=>E1 [0,1,12,13] [none,none,none,none] [] [.slice none 5 0 0 true,.slice none 5 0 0 true,.undef,.undef]) λ_=>E0 [])
theorem nT(d:Nat){a0:List aI}{a1:List aI}{s3:Int}{r:Unit⊕Unit}(h:pF a0 a1 s3=some r):dx (fQ (bF (aQ aT (d+0)) KK 26 alO) [0,1,12,13] KK) 0 (jM [0,1,12,13] (iD a0 a1 s3)) (jA a0 a1 r) :=
 dS (st:=iD a0 a1) (fin:=jA a0 a1) (step:=iM a0 a1) (λe=>by rcases e with e | e<;>(intro h;cases h)) (λs x h=>zA d h) KK s3 r h
def lN(a0:List aI)(a1:List aI):Option (Bool) :=
 cond ((a0.length:Int) != (a1.length:Int)) (some false) ((pF a0 a1 0).bind λ(x6:Unit⊕Unit)=>cond (jY x6) (some false) (some true))
def oI(a0:List aI)(a1:List aI)(r:Bool):AV×WH:=((.bool r),[])
theorem BK(d:Nat){a0:List aI}{a1:List aI}{r:Bool}(h:lN a0 a1=some r):Spec (aQ aT (d+1)) 61 [(fK a0),(fK a1)] [] (oI a0 a1 r).1 (oI a0 a1 r).2:=by
 unfold lN at h
 exact bK nB aCU h (.br 10 (λ_=>Fn Fo [] none) λ_=>.bd λx6 q6=>.ite (λGx=>Lp [none,none,none,none] [] [.slice none 5 0 0 true,.slice none 5 0 0 true,.undef,.undef] (kI (il Gx) (nT (d+0) q6))<|Fn Fo [] none) λGx=>Lp [none,none,none,none] [] [.slice none 5 0 0 true,.slice none 5 0 0 true,.undef,.undef] (kI (Ai Gx) (nT (d+0) q6))<|Fn Fo [] none)
def Ze(a:aM)(bS:aM):Option (Bool) :=
 cond (a.fJ==bS.fJ) (cond (a.Epoch==bS.Epoch) ((gZ a.Pairs bS.Pairs).bind λ(x1:Bool)=>cond x1 ((g_ a.fu bS.fu).bind λ(x2:Bool)=>some x2) (some false)) (some false)) (some false)
def UG(a:aM)(bS:aM)(r:Bool):AV×WH:=((.bool r),[])
theorem aj5(d:Nat){a:aM}{bS:aM}{r:Bool}(h:Ze a bS=some r):Spec (aQ aT (d+2)) 62 [(.agg (dB a)),(.agg (dB bS))] [] (UG a bS r).1 (UG a bS r).2:=by
 unfold Ze at h
 exact bK nB aCV h (.br 10 (λ_=>.br 17 (λ_=>.bd λx1 q1=>Cb [.slice none 2 0 0 true,.slice none 2 0 0 true] (sN (d+0) q1)<|.br 24 (λ_=>.bd λx2 q2=>Cb [.slice none 4 0 0 true,.slice none 4 0 0 true] (sO (d+0) q2)<|Fn Fo [] none) λ_=>Fn Fo [] none) λ_=>Fn Fo [] none) λ_=>Fn Fo [] none)
def aj6(a:aG)(bS:aG):Option (Bool) :=
 (FV a).bind λ(x1:List Int)=>(FV bS).bind λ(x2:List Int)=>(sS x1 x2).bind λ(x3:Bool)=>cond x3 (cond (a.fq==bS.fq) (cond (a.Ef.Client==bS.Ef.Client&&(a.Ef.Seq==bS.Ef.Seq&&(a.Ef.Op.Kind==bS.Ef.Op.Kind&&(a.Ef.Op.Key==bS.Ef.Op.Key&&(a.Ef.Op.Value==bS.Ef.Op.Value&&(a.Ef.Op.Old==bS.Ef.Op.Old&&true)))))) (cond (a.Answer.Why==bS.Answer.Why&&(a.Answer.Value==bS.Answer.Value&&true)) ((sS a.Path bS.Path).bind λ(x4:Bool)=>cond x4 ((lN a.Table bS.Table).bind λ(x5:Bool)=>cond x5 ((Ze a.qg bS.qg).bind λ(x6:Bool)=>some x6) (some false)) (some false)) (some false)) (some false)) (some false)) (some false)
def XA(a:aG)(bS:aG)(r:Bool):AV×WH:=((.bool r),[])
theorem azH(d:Nat){a:aG}{bS:aG}{r:Bool}(h:aj6 a bS=some r):Spec (aQ aT (d+3)) 13 [(.agg (dI a)),(.agg (dI bS))] [] (XA a bS r).1 (XA a bS r).2:=by
 unfold aj6 at h
 exact bK nB aCf h (.bd λx1 q1=>Cl [] Fo [.agg [.undef,.undef,.undef,.undef,.undef,.undef,.undef,.undef,.undef,.undef,.undef,.undef,.undef,.undef,.undef,.undef,.undef,.slice none 1 0 0 true,.slice none 5 0 0 true,.undef,.undef,.slice none 2 0 0 true,.slice none 4 0 0 true]] (Ot (d+1) q1)<|.bd λx2 q2=>Cl [] Fo [.agg [.undef,.undef,.undef,.undef,.undef,.undef,.undef,.undef,.undef,.undef,.undef,.undef,.undef,.undef,.undef,.undef,.undef,.slice none 1 0 0 true,.slice none 5 0 0 true,.undef,.undef,.slice none 2 0 0 true,.slice none 4 0 0 true]] (Ot (d+1) q2)<|.bd λx3 q3=>jw (DJ (d+1) q3)<|.br 10 (λ_=>.br 17 (λ_=>.br 24 (λ_=>.br 31 (λ_=>.bd λx4 q4=>jw (DJ (d+1) q4)<|.br 38 (λ_=>.bd λx5 q5=>Cb [.slice none 5 0 0 true,.slice none 5 0 0 true] (BK (d+1) q5)<|.br 45 (λ_=>.bd λx6 q6=>Cb [.agg [.undef,.undef,.slice none 2 0 0 true,.slice none 4 0 0 true],.agg [.undef,.undef,.slice none 2 0 0 true,.slice none 4 0 0 true]] (aj5 (d+0) q6)<|Fn Fo [] none) λ_=>Fn Fo [] none) λ_=>Fn Fo [] none) λ_=>Fn Fo [] none) λ_=>Fn Fo [] none) λ_=>Fn Fo [] none) λ_=>Fn Fo [] none)
def vF(a:List aI)(bS:List aI)(s3:Int):List AV×WH:=([(fK a),(fK bS),(.int .i64 s3)],[])
def Ab(a:List aI)(bS:List aI):Unit⊕Unit→Ex×Fast×WH:=fun
 |.inl e=>(.ret,[(4,(.bool false))],[])
 |.inr e=>((.exit 0),[],[])
abbrev VA(a:List aI)(bS:List aI):=eF [0,1,5] (vF a bS) (Ab a bS)
def sU(a:List aI)(bS:List aI)(s3:Int):Option ((Int)⊕(Unit⊕Unit)) :=
 cond (decide (s3<(a.length:Int))) ((dH a s3).bind λ(x4:aI)=>(dH bS s3).bind λ(x5:aI)=>cond (!(x4.Inc==x5.Inc&&(x4.Status==x5.Status&&(x4.rG==x5.rG&&(x4.Load==x5.Load&&(x4.fq==x5.fq&&true)))))) (some (.inr (.inl ()))) (some (.inl (IntKind.i64.wrap (s3+1))))) (some (.inr (.inr ())))
def GQ(a:List aI)(bS:List aI)(s3:Int):Option (Unit⊕Unit):=dG (sU a bS) KK s3
theorem XB(d:Nat){a:List aI}{bS:List aI}{s3:Int}{r:(Int)⊕(Unit⊕Unit)}(h:sU a bS s3=some r):dx (bF (aQ aT (d+0)) KK 26 alP) 0 (jM [0,1,5] (vF a bS s3)) (VA a bS r):=by
 unfold sU at h
 exact bU nB aoO h (.br 14 (λ_=>.bd λx4 q4=>Ix lX 19 q4<|.bd λx5 q5=>Ix lX 23 q5<|.br 25 (λ_=>E0 [4]) λ_=>E1 [0,1,5] [none,none,none] [] [.slice none 5 0 0 true,.slice none 5 0 0 true,.undef]) λ_=>E0 [])
theorem KX(d:Nat){a:List aI}{bS:List aI}{s3:Int}{r:Unit⊕Unit}(h:GQ a bS s3=some r):dx (fQ (bF (aQ aT (d+0)) KK 26 alP) [0,1,5] KK) 0 (jM [0,1,5] (vF a bS s3)) (Ab a bS r) :=
 dS (st:=vF a bS) (fin:=Ab a bS) (step:=sU a bS) (λe=>by rcases e with e | e<;>(intro h;cases h)) (λs x h=>XB d h) KK s3 r h
def DK(a:List aI)(bS:List aI):Option (Bool) :=
 cond ((a.length:Int) != (bS.length:Int)) (some false) ((GQ a bS 0).bind λ(x6:Unit⊕Unit)=>cond (jY x6) (some false) (some true))
def Nt(a:List aI)(bS:List aI)(r:Bool):AV×WH:=((.bool r),[])
theorem adG(d:Nat){a:List aI}{bS:List aI}{r:Bool}(h:DK a bS=some r):Spec (aQ aT (d+1)) 63 [(fK a),(fK bS)] [] (Nt a bS r).1 (Nt a bS r).2:=by
 unfold DK at h
 exact bK nB aCW h (.br 10 (λ_=>Fn Fo [] none) λ_=>.bd λx6 q6=>.ite (λGx=>Lp [none,none,none] [] [.slice none 5 0 0 true,.slice none 5 0 0 true,.undef] (kI (il Gx) (KX (d+0) q6))<|Fn Fo [] none) λGx=>Lp [none,none,none] [] [.slice none 5 0 0 true,.slice none 5 0 0 true,.undef] (kI (Ai Gx) (KX (d+0) q6))<|Fn Fo [] none)
abbrev Zf(a:aG)(bS:aG):Fast×WH:=([(2,(.ptr (some (0,0)))),(3,(.ptr (some (1,0))))],[(some (.cells (dI a) false false)),(some (.cells (dI bS) false false))])
def XC(a:aG)(bS:aG):Unit⊕Unit→Ex×Fast×WH:=fun
 |.inl e=>(.ret,[(4,(.bool false))],[])
 |.inr e=>(.normal,[(2,(.ptr (some (0,0)))),(3,(.ptr (some (1,0))))],[(some (.cells (dI a) false false)),(some (.cells (dI bS) false false))])
def Fj(a:aG)(bS:aG):Option (Unit⊕Unit) :=
 cond (a.Kind != bS.Kind) (some (.inl ())) (cond (a.From != bS.From) (some (.inl ())) (cond (a.To != bS.To) (some (.inl ())) (cond (a.fJ != bS.fJ) (some (.inl ())) (cond (a.Epoch != bS.Epoch) (some (.inl ())) (cond (a.Weight != bS.Weight) (some (.inl ())) (cond (a.Load != bS.Load) (some (.inl ())) (cond (a.ou != bS.ou) (some (.inl ())) (cond (!(a.fq==bS.fq)) (some (.inl ())) (cond (!(a.Ef.Client==bS.Ef.Client&&(a.Ef.Seq==bS.Ef.Seq&&(a.Ef.Op.Kind==bS.Ef.Op.Kind&&(a.Ef.Op.Key==bS.Ef.Op.Key&&(a.Ef.Op.Value==bS.Ef.Op.Value&&(a.Ef.Op.Old==bS.Ef.Op.Old&&true))))))) (some (.inl ())) (cond (!(a.Answer.Why==bS.Answer.Why&&(a.Answer.Value==bS.Answer.Value&&true))) (some (.inl ())) (cond ((a.Path.length:Int) != (bS.Path.length:Int)) (some (.inl ())) ((DK a.Table bS.Table).bind λ(x1:Bool)=>cond (!x1) (some (.inl ())) (some (.inr ()))))))))))))))
theorem Po(d:Nat){a:aG}{bS:aG}{r:Unit⊕Unit}(h:Fj a bS=some r):dx (bF (aQ aT (d+1)) KK 121 anz) 0 (Zf a bS) (XC a bS r):=by
 unfold Fj at h
 exact bU nB alp h (.br 11 (λ_=>E0 [4]) λ_=>.br 18 (λ_=>E0 [4]) λ_=>.br 25 (λ_=>E0 [4]) λ_=>.br 32 (λ_=>E0 [4]) λ_=>.br 39 (λ_=>E0 [4]) λ_=>.br 46 (λ_=>E0 [4]) λ_=>.br 53 (λ_=>E0 [4]) λ_=>.br 60 (λ_=>E0 [4]) λ_=>.br 67 (λ_=>E0 [4]) λ_=>.br 74 (λ_=>E0 [4]) λ_=>.br 81 (λ_=>E0 [4]) λ_=>.br 90 (λ_=>E0 [4]) λ_=>.bd λx1 q1=>Cb [.slice none 5 0 0 true,.slice none 5 0 0 true] (adG (d+0) q1)<|.br 97 (λ_=>E0 [4]) λ_=>E0 [2,3])
def zB(a:aG)(bS:aG)(s6:Int):List AV×WH:=([(.ptr (some (0,0))),(.ptr (some (1,0))),(.int .i64 s6)],[(some (.cells (dI a) false false)),(some (.cells (dI bS) false false))])
def DL(a:aG)(bS:aG):Unit⊕Unit→Ex×Fast×WH:=fun
 |.inl e=>(.ret,[(4,(.bool false))],[])
 |.inr e=>((.exit 0),[(2,(.ptr (some (0,0)))),(3,(.ptr (some (1,0))))],[(some (.cells (dI a) false false)),(some (.cells (dI bS) false false))])
abbrev Zg(a:aG)(bS:aG):=eF [2,3,5] (zB a bS) (DL a bS)
def vW(a:aG)(bS:aG)(s6:Int):Option ((Int)⊕(Unit⊕Unit)) :=
 cond (decide (s6<(a.Path.length:Int))) ((dH a.Path s6).bind λ(x7:Int)=>(dH bS.Path s6).bind λ(x8:Int)=>cond (x7 != x8) (some (.inr (.inl ()))) (some (.inl (IntKind.i64.wrap (s6+1))))) (some (.inr (.inr ())))
def LZ(a:aG)(bS:aG)(s6:Int):Option (Unit⊕Unit):=dG (vW a bS) KK s6
theorem aa5(d:Nat){a:aG}{bS:aG}{s6:Int}{r:(Int)⊕(Unit⊕Unit)}(h:vW a bS s6=some r):dx (bF (aQ aT (d+0)) KK 121 alq) 0 (jM [2,3,5] (zB a bS s6)) (Zg a bS r):=by
 unfold vW at h
 exact bU nB aot h (.br 102 (λ_=>.bd λx7 q7=>Ix Lc 108 q7<|.bd λx8 q8=>Ix Lc 113 q8<|.br 115 (λ_=>E0 [4]) λ_=>E0 [2,3,5]) λ_=>E0 [2,3])
theorem Pp(d:Nat){a:aG}{bS:aG}{s6:Int}{r:Unit⊕Unit}(h:LZ a bS s6=some r):dx (fQ (bF (aQ aT (d+0)) KK 121 alq) [2,3,5] KK) 0 (jM [2,3,5] (zB a bS s6)) (DL a bS r) :=
 dS (st:=zB a bS) (fin:=DL a bS) (step:=vW a bS) (λe=>by rcases e with e | e<;>(intro h;cases h)) (λs x h=>aa5 d h) KK s6 r h
def EN(a:aG)(bS:aG):Option (Bool) :=
 (Fj a bS).bind λ(x2:Unit⊕Unit)=>cond (jY x2) (some false) ((LZ a bS 0).bind λ(x9:Unit⊕Unit)=>cond (jY x9) (some false) ((sK a.qg bS.qg).bind λ(dV:Bool)=>some dV))
def RI(a:aG)(bS:aG)(r:Bool):AV×WH:=((.bool r),[])
theorem XD(d:Nat){a:aG}{bS:aG}{r:Bool}(h:EN a bS=some r):Spec (aQ aT (d+2)) 14 [(.agg (dI a)),(.agg (dI bS))] [] (RI a bS r).1 (RI a bS r).2:=by
 unfold EN at h
 exact bK nB aCg h (.sk<|.bd λx2 q2=>.ite (λhb3=>Jn [2,3] [none,none] [] [] (kI (il hb3) (Po (d+0) q2))<|Fn Fo [] none) λhb3=>Jn [2,3] [none,none] [] [] (kI (Ai hb3) (Po (d+0) q2))<|.bd λx9 q9=>.ite (λamC=>Lp [none,none,none] [] [] (kI (il amC) (Pp (d+1) q9))<|Fn Fo [] none) λamC=>Lp [none,none,none] [] [] (kI (Ai amC) (Pp (d+1) q9))<|.bd λdV J5=>Cb [.agg [.undef,.undef,.slice none 2 0 0 true,.slice none 4 0 0 true],.agg [.undef,.undef,.slice none 2 0 0 true,.slice none 4 0 0 true]] (Rk (d+0) J5)<|Fn Fo [] none)
def F4(c:UInt8):Option (Bool) :=
 some (((Gq (Ht .u8 (c.toNat:Int) 128)).toNat:Int)==0)
def Pq(c:UInt8)(r:Bool):AV×WH:=((.bool r),[])
theorem aeY(d:Nat){c:UInt8}{r:Bool}(h:F4 c=some r):Spec (aQ aT (d+1)) 144 [(.int .u8 (c.toNat:Int))] [] (Pq c r).1 (Pq c r).2:=by
 unfold F4 at h
 exact bK nB aBr h (.v 4 (.int .u8 ((Gq (Ht .u8 (c.toNat:Int) 128)).toNat:Int))<|.ob (ayR rfl:@Eq (Option AV) (some (.int .u8 (Ht .u8 (c.toNat:Int) 128))) (some (.int .u8 ((Gq (Ht .u8 (c.toNat:Int) 128)).toNat:Int))))<|Fn Fo [] none)
def jq(a0:List UInt8)(s3:Int):List AV×WH:=([(rC a0),(.func 144 []),(.int .i64 (a0.length:Int)),(.int .i64 s3)],[])
def lD(a0:List UInt8):Int⊕Unit→Ex×Fast×WH:=fun
 |.inl e=>(.ret,[(4,(.int .i64 e))],[])
 |.inr e=>((.exit 0),[],[])
abbrev DN(a0:List UInt8):=eF [0,1,7,8] (jq a0) (lD a0)
def iQ(a0:List UInt8)(s3:Int):Option ((Int)⊕(Int⊕Unit)) :=
 cond (decide (s3<(a0.length:Int))) ((dH a0 s3).bind λ(x4:UInt8)=>(F4 x4).bind λ(x5:Bool)=>cond x5 (some (.inr (.inl s3))) (some (.inl (IntKind.i64.wrap (s3+1))))) (some (.inr (.inr ())))
def nK(a0:List UInt8)(s3:Int):Option (Int⊕Unit):=dG (iQ a0) KK s3
theorem Ei(d:Nat){a0:List UInt8}{s3:Int}{r:(Int)⊕(Int⊕Unit)}(h:iQ a0 s3=some r):dx (bF (aQ aT (d+1)) KK 19 ahr) 0 (jM [0,1,7,8] (jq a0 s3)) (DN a0 r):=by
 unfold iQ at h
 exact bU nB amm h (.br 9 (λ_=>.bd λx4 q4=>Ix Yf 14 q4<|.bd λx5 q5=>jw (aeY (d+0) q5)<|.br 16 (λ_=>E0 [4]) λ_=>E0 [0,1,7,8]) λ_=>E0 [])
theorem tO(d:Nat){a0:List UInt8}{s3:Int}{r:Int⊕Unit}(h:nK a0 s3=some r):dx (fQ (bF (aQ aT (d+1)) KK 19 ahr) [0,1,7,8] KK) 0 (jM [0,1,7,8] (jq a0 s3)) (lD a0 r) :=
 dS (st:=jq a0) (fin:=lD a0) (step:=iQ a0) (λe=>by rcases e with e | e<;>(intro h;cases h)) (λs x h=>Ei d h) KK s3 r h
def jG(a0:List UInt8):Option (Int) :=
 (nK a0 0).bind λ(x6:Int⊕Unit)=>cond (jY x6) (some (Bu x6)) (some (-1))
def uD(a0:List UInt8)(r:Int):AV×WH:=((.int .i64 r),[])
theorem GR(d:Nat){a0:List UInt8}{r:Int}(h:jG a0=some r):Spec (aQ aT (d+2)) 143 [(rC a0),(.func 144 [])] [] (uD a0 r).1 (uD a0 r).2:=by
 unfold jG at h
 exact bK nB aBq h (.bd λx6 q6=>.ite (λGx=>Lp [none,none,none,none] [] [] (kI (il Gx) (tO (d+0) q6))<|Fn Fo [] none) λGx=>Lp [none,none,none,none] [] [] (kI (Ai Gx) (tO (d+0) q6))<|Fn Fo [] none)
abbrev aa6(x1:Int)(bS:List UInt8):Fast×WH:=([(0,(rC bS)),(2,(.int .i64 0)),(5,(.int .i64 x1))],[])
def Zh(x1:Int)(bS:List UInt8):Unit⊕Unit→Ex×Fast×WH:=fun
 |.inl e=>(.ret,[(2,(.int .i64 0)),(3,(.int .i64 0)),(4,(.int .i64 2))],[])
 |.inr e=>(.normal,[(0,(rC bS)),(2,(.int .i64 0)),(5,(.int .i64 x1))],[])
def DR(x1:Int)(bS:List UInt8):Option (Unit⊕Unit) :=
 cond (decide (x1≥9)) (some (.inl ())) (cond (decide (x1>0)) ((dH bS x1).bind λ(x2:UInt8)=>cond ((x2.toNat:Int)==0) (some (.inl ())) (some (.inr ()))) (some (.inr ())))
theorem RJ(d:Nat){x1:Int}{bS:List UInt8}{r:Unit⊕Unit}(h:DR x1 bS=some r):dx (bF (aQ aT (d+0)) KK 47 ac1) 0 (aa6 x1 bS) (Zh x1 bS r):=by
 unfold DR at h
 exact bU nB aew h (.br 13 (λ_=>E0 [2,3,4]) λ_=>.br 16 (λ_=>.bd λx2 q2=>Ix Yf 19 q2<|.br 23 (λ_=>E0 [2,3,4]) λ_=>E0 [0,2,5]) λ_=>E0 [0,2,5])
def Bh(bS:List UInt8)(x1:Int)(s6:Int×Int):List AV×WH:=([(rC bS),(.int .i64 s6.1),(.int .i64 x1),(.int .i64 s6.2)],[])
def EO(bS:List UInt8)(x1:Int):Int→Ex×Fast×WH:=λe=>((.exit 0),[(2,(.int .i64 e)),(5,(.int .i64 x1))],[])
abbrev aa7(bS:List UInt8)(x1:Int):=eF [0,2,5,6] (Bh bS x1) (EO bS x1)
def yF(bS:List UInt8)(x1:Int)(s6:Int×Int):Option ((Int×Int)⊕(Int)) :=
 cond (decide (s6.2≥0)) ((dH bS s6.2).bind λ(x7:UInt8)=>some (.inl ((orI .i64 (au5 .i64 s6.1 7) (IntKind.i64.wrap ((Gq (Ht .u8 (x7.toNat:Int) 127)).toNat:Int))),(IntKind.i64.wrap (s6.2-1))))) (some (.inr s6.1))
def H9(bS:List UInt8)(x1:Int)(s6:Int×Int):Option (Int):=dG (yF bS x1) KK s6
theorem adH(d:Nat){bS:List UInt8}{x1:Int}{s6:Int×Int}{r:(Int×Int)⊕(Int)}(h:yF bS x1 s6=some r):dx (bF (aQ aT (d+0)) KK 47 ahq) 0 (jM [0,2,5,6] (Bh bS x1 s6)) (aa7 bS x1 r):=by
 unfold yF at h
 exact bU nB aml h (.br 26 (λ_=>.bd λx7 q7=>Ix Yf 33 q7<|.v 35 (.int .u8 ((Gq (Ht .u8 (x7.toNat:Int) 127)).toNat:Int))<|.ob (ayR rfl:@Eq (Option AV) (some (.int .u8 (Ht .u8 (x7.toNat:Int) 127))) (some (.int .u8 ((Gq (Ht .u8 (x7.toNat:Int) 127)).toNat:Int))))<|E0 [0,2,5,6]) λ_=>E0 [2,5])
theorem adI(d:Nat){bS:List UInt8}{x1:Int}{s6:Int×Int}{r:Int}(h:H9 bS x1 s6=some r):dx (fQ (bF (aQ aT (d+0)) KK 47 ahq) [0,2,5,6] KK) 0 (jM [0,2,5,6] (Bh bS x1 s6)) (EO bS x1 r) :=
 dS (st:=Bh bS x1) (fin:=EO bS x1) (step:=yF bS x1) (λe=>by(intro h;cases h)) (λs x h=>adH d h) KK s6 r h
abbrev aa8(x8:Int)(x1:Int):Fast×WH:=([(2,(.int .i64 x8)),(5,(.int .i64 x1))],[])
def Zi(x8:Int)(x1:Int):Unit⊕Unit→Ex×Fast×WH:=fun
 |.inl e=>(.ret,[(2,(.int .i64 0)),(3,(.int .i64 0)),(4,(.int .i64 2))],[])
 |.inr e=>(.normal,[(2,(.int .i64 x8)),(5,(.int .i64 x1))],[])
def H_(x8:Int)(x1:Int):Option (Unit⊕Unit) :=
 cond (decide (x8<0)) (some (.inl ())) (cond (decide (x8>4611686018427387903)) (some (.inl ())) (some (.inr ())))
theorem RL(d:Nat){x8:Int}{x1:Int}{r:Unit⊕Unit}(h:H_ x8 x1=some r):dx (bF (aQ aT (d+0)) KK 47 WU) 0 (aa8 x8 x1) (Zi x8 x1 r):=by
 unfold H_ at h
 exact bU nB aaD h (.br 40 (λ_=>E0 [2,3,4]) λ_=>.br 43 (λ_=>E0 [2,3,4]) λ_=>E0 [2,5])
def EP(bS:List UInt8):Option (Int×Int×Int) :=
 (jG bS).bind λ(x1:Int)=>cond (decide (x1<0)) (some (0,0,3)) ((DR x1 bS).bind λ(x3:Unit⊕Unit)=>cond (jY x3) (some (0,0,2)) ((H9 bS x1 (0,x1)).bind λ(x8:Int)=>(H_ x8 x1).bind λ(x9:Unit⊕Unit)=>cond (jY x9) (some (0,0,2)) (some (x8,(IntKind.i64.wrap (x1+1)),0))))
def UH(bS:List UInt8)(r:Int×Int×Int):AV×WH:=((.tuple [(.int .i64 r.1),(.int .i64 r.2.1),(.int .i64 r.2.2)]),[])
theorem RN(d:Nat){bS:List UInt8}{r:Int×Int×Int}(h:EP bS=some r):Spec (aQ aT (d+3)) 139 [(rC bS)] [] (UH bS r).1 (UH bS r).2:=by
 unfold EP at h
 exact bK nB aBm h (.bd λx1 q1=>jw (GR (d+0) q1)<|.br 10 (λ_=>Fn Fo [] none) λ_=>.bd λx3 q3=>.ite (λhb4=>Jn [0,2,5] [none,none,none] [] [] (kI (il hb4) (RJ (d+2) q3))<|Fn Fo [] none) λhb4=>Jn [0,2,5] [none,none,none] [] [] (kI (Ai hb4) (RJ (d+2) q3))<|.bd λx8 q8=>Lp [none,none,none,none] [] [] (adI (d+2) q8)<|.bd λx9 q9=>.ite (λamC=>Jn [2,5] [none,none] [] [] (kI (il amC) (RL (d+2) q9))<|Fn Fo [] none) λamC=>Jn [2,5] [none,none] [] [] (kI (Ai amC) (RL (d+2) q9))<|Fn Fo [] none)
def F5(bS:List UInt8):Option (List UInt8) :=
 gd (dR 1 bS.length) (some bS)
def XE(bS:List UInt8)(r:List UInt8):AV×WH:=((rC r),[])
theorem VB(d:Nat){bS:List UInt8}{r:List UInt8}(h:F5 bS=some r):Spec (aQ aT (d+2)) 140 [(rC bS)] [] (XE bS r).1 (XE bS r).2:=by
 unfold F5 at h
 exact bK (KG _) aBn h (.gd λq1=>.ob q1<|Fn Fo [] none)
def zC(count:Int)(bS:List UInt8)(s7:Int×Int×List Int):List AV×WH:=([(rC bS),(.acc 0 0 1 s7.2.2.length true),(.int .i64 s7.1),(.int .i64 (if count>0 then count else 0)),(.int .i64 s7.2.1)],[(some (.cells (uY s7.2.2) false true))])
def DT(count:Int)(bS:List UInt8):Int⊕(Int×List Int)→Ex×Fast×WH:=fun
 |.inl e=>(.ret,[(4,(.slice none 1 0 0 true)),(5,(.slice none 1 0 0 true)),(6,(.int .i64 e))],[])
 |.inr e=>((.exit 0),[(0,(rC bS)),(4,(.acc 0 0 1 e.2.length true)),(7,(.int .i64 e.1))],[(some (.cells (uY e.2) false true))])
abbrev Zj(count:Int)(bS:List UInt8):=eF [0,4,7,12,13] (zC count bS) (DT count bS)
def kL(count:Int)(bS:List UInt8)(s7:Int×Int×List Int):Option ((Int×Int×List Int)⊕(Int⊕(Int×List Int))) :=
 cond (decide (s7.2.1<(if count>0 then count else 0))) ((OX bS s7.1 bS.length).bind λ(x8:List UInt8)=>(EP x8).bind λ(x9:Int×Int×Int)=>cond (x9.2.2 != 0) (some (.inr (.inl x9.2.2))) (gd (dR 8 (s7.2.2++[x9.1]).length) (some (.inl ((IntKind.i64.wrap (s7.1+x9.2.1)),(IntKind.i64.wrap (s7.2.1+1)),(s7.2.2++[x9.1])))))) (some (.inr (.inr (s7.1,s7.2.2))))
def L6(count:Int)(bS:List UInt8)(s7:Int×Int×List Int):Option (Int⊕(Int×List Int)):=dG (kL count bS) KK s7
theorem aa9(d:Nat){count:Int}{bS:List UInt8}{s7:Int×Int×List Int}{r:(Int×Int×List Int)⊕(Int⊕(Int×List Int))}(h:kL count bS s7=some r):dx (bF (aQ aT (d+3)) KK 40 ahk) 0 (jM [0,4,7,12,13] (zC count bS s7)) (Zj count bS r):=by
 unfold kL at h
 exact bU nB amf h (.br 14 (λ_=>.bd λx8 q8=>Sl Yf 18 q8<|.bd λx9 q9=>jw (RN (d+0) q9)<|.br 24 (λ_=>E0 [4,5,6]) λ_=>.gd λMG=>Ap Lc 29 MG<|E0 [0,4,7,12,13]) λ_=>E0 [0,4,7])
theorem Pt(d:Nat){count:Int}{bS:List UInt8}{s7:Int×Int×List Int}{r:Int⊕(Int×List Int)}(h:L6 count bS s7=some r):dx (fQ (bF (aQ aT (d+3)) KK 40 ahk) [0,4,7,12,13] KK) 0 (jM [0,4,7,12,13] (zC count bS s7)) (DT count bS r) :=
 dS (st:=zC count bS) (fin:=DT count bS) (step:=kL count bS) (λe=>by rcases e with e | e<;>(intro h;cases h)) (λs x h=>aa9 d h) KK s7 r h
def BM(bS:List UInt8)(count:Int):Option (List Int×List UInt8×Int) :=
 (L6 count bS (0,0,[])).bind λ(dV:Int⊕(Int×List Int))=>cond (jY dV) (some ([],[],(Bu dV))) ((OX bS (Ob dV).1 bS.length).bind λ(rV:List UInt8)=>(F5 rV).bind λ(nO:List UInt8)=>some ((Ob dV).2,nO,0))
def RO(bS:List UInt8)(count:Int)(r:List Int×List UInt8×Int):AV×WH:=((.tuple [(Lg r.1),(rC r.2.1),(.int .i64 r.2.2)]),[])
theorem Ox(d:Nat){bS:List UInt8}{count:Int}{r:List Int×List UInt8×Int}(h:BM bS count=some r):Spec (aQ aT (d+4)) 122 [(rC bS),(.int .i64 count)] [] (RO bS count r).1 (RO bS count r).2:=by
 unfold BM at h
 exact bK (KG _) aA8 h (.bd λdV J5=>.ite (λVh=>Lp [none,Tw,none,none,none] [] [] (kI (il Vh) (Pt (d+0) J5))<|Fn Fo [] none) λVh=>Lp [none,Tw,none,none,none] [] [] (kI (Ai Vh) (Pt (d+0) J5))<|.bd λrV YL=>Sl Yf 38 YL<|.bd λnO PZ=>Cl [] Fo [] (VB (d+1) PZ)<|Fn Fo [] none)
def fI(count:Int)(p_r:aX):Option (List Int×aX) :=
 gd (aiO 8 count) (cond (p_r.e==0) ((BM p_r.b count).bind λ(x2:List Int×List UInt8×Int)=>cond (x2.2.2==0) (some (x2.1,(⟨x2.2.1,x2.2.2⟩:aX))) (some ((List.replicate count.toNat (0:Int)),(⟨x2.2.1,x2.2.2⟩:aX)))) (some ((List.replicate count.toNat (0:Int)),p_r)))
def gD(count:Int)(p_r:aX)(r:List Int×aX):AV×WH:=((Lg r.1),[(some (.cells (gM r.2) false false))])
theorem sV(d:Nat){count:Int}{p_r:aX}{r:List Int×aX}(h:fI count p_r=some r):Spec (aQ aT (d+5)) 98 [(.ptr (some (0,0))),(.int .i64 count)] [(some (.cells (gM p_r) false false))] (gD count p_r r).1 (gD count p_r r).2:=by
 unfold fI at h
 exact bK nB aDq h (.gd λq1=>.ap 8 count.toNat (uY (List.replicate count.toNat (0:Int)))<|.ob (aqu (n:=count) q1:wMk (.int .i64 count) (.int .i64 count) count.toNat 8)<|.ob (aiN (x:=(0:Int)) Lc rfl _:l5 count.toNat [(.int .i64 0)]=uY (List.replicate count.toNat (0:Int)))<|.br 13 (λ_=>.bd λx2 q2=>Cl [] Fo [] (Ox (d+0) q2)<|.st none<|.st none<|.br 34 (λ_=>Fn Fo [] none) λ_=>.zN (.fin (some false) [] none) _ (λr=>@Eq AV (.list 1 count.toNat (uY (List.replicate count.toNat (0:Int))) false) (gD count p_r r).1∧@Eq WH [(some (.cells (gM (⟨x2.2.1,x2.2.2⟩:aX)) false false))] (gD count p_r r).2) (by show _∧_;refine⟨?_, ?_⟩<;>first | rfl |(simp only[gD,bB,aD,List.length_replicate,bA,bN,bf,aZ,Nat.add_zero,Nat.zero_add];done) | simp[gD,Lg])) λ_=>.zN (.fin (some false) [] none) _ (λr=>@Eq AV (.list 1 count.toNat (uY (List.replicate count.toNat (0:Int))) false) (gD count p_r r).1∧@Eq WH [(some (.cells (gM p_r) false false))] (gD count p_r r).2) (by show _∧_;refine⟨?_, ?_⟩<;>first | rfl |(simp only[gD,bB,aD,List.length_replicate,bA,bN,bf,aZ,Nat.add_zero,Nat.zero_add];done) | simp[gD,Lg]))
def gu(most:Int)(p_r:aX):Option (Int×aX) :=
 (fI 1 p_r).bind λ(x1:List Int×aX)=>(dH x1.1 0).bind λ(x2:Int)=>cond (decide (x2>most)) (some (0,(⟨x1.2.b,2⟩:aX))) (some (x2,x1.2))
def Hf(most:Int)(p_r:aX)(r:Int×aX):AV×WH:=((.int .i64 r.1),[(some (.cells (gM r.2) false false))])
theorem xk(d:Nat){most:Int}{p_r:aX}{r:Int×aX}(h:gu most p_r=some r):Spec (aQ aT (d+6)) 99 [(.ptr (some (0,0))),(.int .i64 most)] [(some (.cells (gM p_r) false false))] (Hf most p_r r).1 (Hf most p_r r).2:=by
 unfold gu at h
 exact bK nB aDr h (.bd λx1 q1=>Cl [] Fo [] (sV (d+0) q1)<|.bd λx2 q2=>Ix Lc 8 q2<|.br 12 (λ_=>.st none<|Fn Fo [] none) λ_=>Fn Fo [] none)
def wu(bS:List UInt8):Option (List UInt8×List UInt8×Int) :=
 (EP bS).bind λ(x1:Int×Int×Int)=>cond (x1.2.2 != 0) (some (([]:List UInt8),[],x1.2.2)) (cond (decide (x1.1>(IntKind.i64.wrap ((bS.length:Int)-x1.2.1)))) (some (([]:List UInt8),[],3)) ((OX bS (IntKind.i64.wrap (x1.2.1+x1.1)) bS.length).bind λ(x2:List UInt8)=>(F5 x2).bind λ(x3:List UInt8)=>(OX bS x1.2.1 (IntKind.i64.wrap (x1.2.1+x1.1))).bind λ(x4:List UInt8)=>some (x4,x3,0)))
def KY(bS:List UInt8)(r:List UInt8×List UInt8×Int):AV×WH:=((.tuple [(.str r.1),(rC r.2.1),(.int .i64 r.2.2)]),[])
theorem Pv(d:Nat){bS:List UInt8}{r:List UInt8×List UInt8×Int}(h:wu bS=some r):Spec (aQ aT (d+4)) 125 [(rC bS)] [] (KY bS r).1 (KY bS r).2:=by
 unfold wu at h
 exact bK nB aBb h (.bd λx1 q1=>jw (RN (d+0) q1)<|.br 13 (λ_=>Fn Fo [] none) λ_=>.br 17 (λ_=>Fn Fo [] none) λ_=>.bd λx2 q2=>Sl Yf 35 q2<|.bd λx3 q3=>Cl [] Fo [] (VB (d+1) q3)<|.bd λx4 q4=>Sb Yf 29 q4<|.v 30 (.str x4)<|.ob (by rw[show PW x4=(x4).map MB from rfl,QB];rfl:(mU (PW x4)).map AV.str=some (.str x4))<|Fn Fo [] none)
def xq(count:Int)(s5:List UInt8×Int×List (List UInt8)):List AV×WH:=([(rC s5.1),(.acc 0 0 1 s5.2.2.length true),(.int .i64 count),(.int .i64 s5.2.1)],[(some (.cells (F_S s5.2.2) false true))])
def BN(count:Int):Int⊕(List UInt8×List (List UInt8))→Ex×Fast×WH:=fun
 |.inl e=>(.ret,[(4,(.slice none 1 0 0 true)),(5,(.slice none 1 0 0 true)),(6,(.int .i64 e))],[])
 |.inr e=>((.exit 0),[(0,(rC e.1)),(4,(.acc 0 0 1 e.2.length true))],[(some (.cells (F_S e.2) false true))])
abbrev XF(count:Int):=eF [0,4,8,9] (xq count) (BN count)
def mO(count:Int)(s5:List UInt8×Int×List (List UInt8)):Option ((List UInt8×Int×List (List UInt8))⊕(Int⊕(List UInt8×List (List UInt8)))) :=
 cond (decide (s5.2.1<count)) ((wu s5.1).bind λ(x6:List UInt8×List UInt8×Int)=>cond (x6.2.2 != 0) (some (.inr (.inl x6.2.2))) (gd (dR 16 (s5.2.2++[x6.1]).length) (some (.inl (x6.2.1,(IntKind.i64.wrap (s5.2.1+1)),(s5.2.2++[x6.1])))))) (some (.inr (.inr (s5.1,s5.2.2))))
def JB(count:Int)(s5:List UInt8×Int×List (List UInt8)):Option (Int⊕(List UInt8×List (List UInt8))):=dG (mO count) KK s5
theorem Zk(d:Nat){count:Int}{s5:List UInt8×Int×List (List UInt8)}{r:(List UInt8×Int×List (List UInt8))⊕(Int⊕(List UInt8×List (List UInt8)))}(h:mO count s5=some r):dx (bF (aQ aT (d+4)) KK 27 ahl) 0 (jM [0,4,8,9] (xq count s5)) (XF count r):=by
 unfold mO at h
 exact bU nB amg h (.br 10 (λ_=>.bd λx6 q6=>Cl [] Fo [] (Pv (d+0) q6)<|.br 18 (λ_=>E0 [4,5,6]) λ_=>.gd λq7=>Ap R_S 23 q7<|E0 [0,4,8,9]) λ_=>E0 [0,4])
theorem Nu(d:Nat){count:Int}{s5:List UInt8×Int×List (List UInt8)}{r:Int⊕(List UInt8×List (List UInt8))}(h:JB count s5=some r):dx (fQ (bF (aQ aT (d+4)) KK 27 ahl) [0,4,8,9] KK) 0 (jM [0,4,8,9] (xq count s5)) (BN count r) :=
 dS (st:=xq count) (fin:=BN count) (step:=mO count) (λe=>by rcases e with e | e<;>(intro h;cases h)) (λs x h=>Zk d h) KK s5 r h
def Cq(bS:List UInt8)(count:Int):Option (List (List UInt8)×List UInt8×Int) :=
 (JB count (bS,0,[])).bind λ(x8:Int⊕(List UInt8×List (List UInt8)))=>cond (jY x8) (some ([],[],(Bu x8))) (some ((Ob x8).2,(Ob x8).1,0))
def Pw(bS:List UInt8)(count:Int)(r:List (List UInt8)×List UInt8×Int):AV×WH:=((.tuple [(l_S r.1),(rC r.2.1),(.int .i64 r.2.2)]),[])
theorem UJ(d:Nat){bS:List UInt8}{count:Int}{r:List (List UInt8)×List UInt8×Int}(h:Cq bS count=some r):Spec (aQ aT (d+5)) 123 [(rC bS),(.int .i64 count)] [] (Pw bS count r).1 (Pw bS count r).2:=by
 unfold Cq at h
 exact bK nB aA9 h (.bd λx8 q8=>.ite (λhb9=>Lp [none,Tw,none,none] [] [] (kI (il hb9) (Nu (d+0) q8))<|Fn Fo [] none) λhb9=>Lp [none,Tw,none,none] [] [] (kI (Ai hb9) (Nu (d+0) q8))<|Fn Fo [] none)
def tJ(bS:List UInt8):Option (bJ×List UInt8×Int) :=
 (BM bS 3).bind λ(x1:List Int×List UInt8×Int)=>cond (x1.2.2 != 0) (some ((⟨0,0,(⟨0,([]:List UInt8),([]:List UInt8),([]:List UInt8)⟩:bZ)⟩:bJ),[],x1.2.2)) ((Cq x1.2.1 3).bind λ(x2:List (List UInt8)×List UInt8×Int)=>cond (x2.2.2 != 0) (some ((⟨0,0,(⟨0,([]:List UInt8),([]:List UInt8),([]:List UInt8)⟩:bZ)⟩:bJ),[],x2.2.2)) ((dH x1.1 0).bind λ(x3:Int)=>(dH x1.1 1).bind λ(x4:Int)=>(dH x1.1 2).bind λ(x5:Int)=>(dH x2.1 0).bind λ(x6:List UInt8)=>(dH x2.1 1).bind λ(x7:List UInt8)=>(dH x2.1 2).bind λ(x8:List UInt8)=>(qm (⟨x3,x4,(⟨x5,x6,x7,x8⟩:bZ)⟩:bJ)).bind λ(x9:Bool)=>cond (!x9) (some ((⟨0,0,(⟨0,([]:List UInt8),([]:List UInt8),([]:List UInt8)⟩:bZ)⟩:bJ),[],2)) (some ((⟨x3,x4,(⟨x5,x6,x7,x8⟩:bZ)⟩:bJ),x2.2.1,0))))
def KZ(bS:List UInt8)(r:bJ×List UInt8×Int):AV×WH:=((.tuple [(.agg (wh r.1)),(rC r.2.1),(.int .i64 r.2.2)]),[])
theorem abb(d:Nat){bS:List UInt8}{r:bJ×List UInt8×Int}(h:tJ bS=some r):Spec (aQ aT (d+6)) 100 [(rC bS)] [] (KZ bS r).1 (KZ bS r).2:=by
 unfold tJ at h
 exact bK nB aAR h (.bd λx1 q1=>Cl [] Fo [] (Ox (d+1) q1)<|.br 14 (λ_=>.st none<|Fn Fo [] none) λ_=>.bd λx2 q2=>Cl [] Fo [] (UJ (d+0) q2)<|.br 24 (λ_=>.st none<|Fn Fo [] none) λ_=>.bd λx3 q3=>Ix Lc 28 q3<|.bd λx4 q4=>Ix Lc 31 q4<|.bd λx5 q5=>Ix Lc 34 q5<|.bd λx6 q6=>Ix R_S 37 q6<|.bd λx7 q7=>Ix R_S 40 q7<|.bd λx8 q8=>Ix R_S 43 q8<|.st none<|.bd λx9 q9=>jw (EK (d+3) q9)<|.br 49 (λ_=>.st none<|Fn Fo [] none) λ_=>.st none<|Fn Fo [] none)
def Iy(bS:List UInt8):Option (Int×List UInt8×Int) :=
 (EP bS).bind λ(x1:Int×Int×Int)=>cond (x1.2.2 != 0) (some (0,[],x1.2.2)) ((OX bS x1.2.1 bS.length).bind λ(x2:List UInt8)=>(F5 x2).bind λ(x3:List UInt8)=>some (x1.1,x3,0))
def UK(bS:List UInt8)(r:Int×List UInt8×Int):AV×WH:=((.tuple [(.int .i64 r.1),(rC r.2.1),(.int .i64 r.2.2)]),[])
theorem aj7(d:Nat){bS:List UInt8}{r:Int×List UInt8×Int}(h:Iy bS=some r):Spec (aQ aT (d+4)) 124 [(rC bS)] [] (UK bS r).1 (UK bS r).2:=by
 unfold Iy at h
 exact bK nB aBa h (.bd λx1 q1=>jw (RN (d+0) q1)<|.br 13 (λ_=>Fn Fo [] none) λ_=>.bd λx2 q2=>Sl Yf 18 q2<|.bd λx3 q3=>Cl [] Fo [] (VB (d+1) q3)<|Fn Fo [] none)
def kY(bS:List UInt8):Option (aJ×List UInt8×Int) :=
 (Iy bS).bind λ(x1:Int×List UInt8×Int)=>cond (x1.2.2 != 0) (some ((⟨0,([]:List UInt8)⟩:aJ),[],x1.2.2)) ((wu x1.2.1).bind λ(x2:List UInt8×List UInt8×Int)=>cond (x2.2.2 != 0) (some ((⟨0,([]:List UInt8)⟩:aJ),[],x2.2.2)) ((lJ (⟨x1.1,x2.1⟩:aJ)).bind λ(x3:Bool)=>cond (!x3) (some ((⟨0,([]:List UInt8)⟩:aJ),[],2)) (some ((⟨x1.1,x2.1⟩:aJ),x2.2.1,0))))
def F6(bS:List UInt8)(r:aJ×List UInt8×Int):AV×WH:=((.tuple [(.agg (fM r.1)),(rC r.2.1),(.int .i64 r.2.2)]),[])
theorem JC(d:Nat){bS:List UInt8}{r:aJ×List UInt8×Int}(h:kY bS=some r):Spec (aQ aT (d+5)) 101 [(rC bS)] [] (F6 bS r).1 (F6 bS r).2:=by
 unfold kY at h
 exact bK nB aAS h (.bd λx1 q1=>Cl [] Fo [] (aj7 (d+0) q1)<|.br 14 (λ_=>.st none<|Fn Fo [] none) λ_=>.bd λx2 q2=>Cl [] Fo [] (Pv (d+0) q2)<|.br 24 (λ_=>.st none<|Fn Fo [] none) λ_=>.st none<|.bd λx3 q3=>jw (zZ (d+3) q3)<|.br 32 (λ_=>.st none<|Fn Fo [] none) λ_=>.st none<|Fn Fo [] none)
def jS(p_r:aX):Option (aI×aX) :=
 (fI 4 p_r).bind λ(x1:List Int×aX)=>(gu 1 x1.2).bind λ(x2:Int×aX)=>(dH x1.1 0).bind λ(x3:Int)=>(dH x1.1 1).bind λ(x4:Int)=>(dH x1.1 2).bind λ(x5:Int)=>(dH x1.1 3).bind λ(x6:Int)=>some ((⟨x3,x4,x5,x6,(x2.1==1)⟩:aI),x2.2)
def F7(p_r:aX)(r:aI×aX):AV×WH:=((.agg (Ca r.1)),[(some (.cells (gM r.2) false false))])
theorem VD(d:Nat){p_r:aX}{r:aI×aX}(h:jS p_r=some r):Spec (aQ aT (d+7)) 103 [(.ptr (some (0,0)))] [(some (.cells (gM p_r) false false))] (F7 p_r r).1 (F7 p_r r).2:=by
 unfold jS at h
 exact bK nB aAT h (.bd λx1 q1=>Cl [] Fo [] (sV (d+1) q1)<|.bd λx2 q2=>Cl [] Fo [] (xk (d+0) q2)<|.bd λx3 q3=>Ix Lc 7 q3<|.bd λx4 q4=>Ix Lc 10 q4<|.bd λx5 q5=>Ix Lc 13 q5<|.bd λx6 q6=>Ix Lc 16 q6<|.st none<|Fn Fo [] none)
def iE(count:Int)(p_r:aU):Option (List Int×aU) :=
 gd (aiO 8 count) (cond (p_r.e==0) ((BM p_r.b count).bind λ(x2:List Int×List UInt8×Int)=>cond (x2.2.2==0) (some (x2.1,(⟨x2.2.1,x2.2.2⟩:aU))) (some ((List.replicate count.toNat (0:Int)),(⟨x2.2.1,x2.2.2⟩:aU)))) (some ((List.replicate count.toNat (0:Int)),p_r)))
def fP(count:Int)(p_r:aU)(r:List Int×aU):AV×WH:=((Lg r.1),[(some (.cells (fZ r.2) false false))])
theorem vG(d:Nat){count:Int}{p_r:aU}{r:List Int×aU}(h:iE count p_r=some r):Spec (aQ aT (d+5)) 126 [(.ptr (some (0,0))),(.int .i64 count)] [(some (.cells (fZ p_r) false false))] (fP count p_r r).1 (fP count p_r r).2:=by
 unfold iE at h
 exact bK nB aBd h (.gd λq1=>.ap 8 count.toNat (uY (List.replicate count.toNat (0:Int)))<|.ob (aqu (n:=count) q1:wMk (.int .i64 count) (.int .i64 count) count.toNat 8)<|.ob (aiN (x:=(0:Int)) Lc rfl _:l5 count.toNat [(.int .i64 0)]=uY (List.replicate count.toNat (0:Int)))<|.br 13 (λ_=>.bd λx2 q2=>Cl [] Fo [] (Ox (d+0) q2)<|.st none<|.st none<|.br 34 (λ_=>Fn Fo [] none) λ_=>.zN (.fin (some false) [] none) _ (λr=>@Eq AV (.list 1 count.toNat (uY (List.replicate count.toNat (0:Int))) false) (fP count p_r r).1∧@Eq WH [(some (.cells (fZ (⟨x2.2.1,x2.2.2⟩:aU)) false false))] (fP count p_r r).2) (by show _∧_;refine⟨?_, ?_⟩<;>first | rfl |(simp only[fP,bB,aD,List.length_replicate,bA,bN,bf,aZ,Nat.add_zero,Nat.zero_add];done) | simp[fP,Lg])) λ_=>.zN (.fin (some false) [] none) _ (λr=>@Eq AV (.list 1 count.toNat (uY (List.replicate count.toNat (0:Int))) false) (fP count p_r r).1∧@Eq WH [(some (.cells (fZ p_r) false false))] (fP count p_r r).2) (by show _∧_;refine⟨?_, ?_⟩<;>first | rfl |(simp only[fP,bB,aD,List.length_replicate,bA,bN,bf,aZ,Nat.add_zero,Nat.zero_add];done) | simp[fP,Lg]))
def ig(most:Int)(p_r:aU):Option (Int×aU) :=
 (iE 1 p_r).bind λ(x1:List Int×aU)=>(dH x1.1 0).bind λ(x2:Int)=>cond (decide (x2>most)) (some (0,(⟨x1.2.b,2⟩:aU))) (some (x2,x1.2))
def DU(most:Int)(p_r:aU)(r:Int×aU):AV×WH:=((.int .i64 r.1),[(some (.cells (fZ r.2) false false))])
theorem F8(d:Nat){most:Int}{p_r:aU}{r:Int×aU}(h:ig most p_r=some r):Spec (aQ aT (d+6)) 127 [(.ptr (some (0,0))),(.int .i64 most)] [(some (.cells (fZ p_r) false false))] (DU most p_r r).1 (DU most p_r r).2:=by
 unfold ig at h
 exact bK nB aBe h (.bd λx1 q1=>Cl [] Fo [] (vG (d+0) q1)<|.bd λx2 q2=>Ix Lc 8 q2<|.br 12 (λ_=>.st none<|Fn Fo [] none) λ_=>Fn Fo [] none)
def lQ(p_r:aU):Option (aF×aU) :=
 cond (p_r.e==0) ((Cq p_r.b 2).bind λ(x1:List (List UInt8)×List UInt8×Int)=>cond (x1.2.2==0) ((dH x1.1 0).bind λ(x2:List UInt8)=>(dH x1.1 1).bind λ(x3:List UInt8)=>some ((⟨x2,x3⟩:aF),(⟨x1.2.1,x1.2.2⟩:aU))) (some ((⟨([]:List UInt8),([]:List UInt8)⟩:aF),(⟨x1.2.1,x1.2.2⟩:aU)))) (some ((⟨([]:List UInt8),([]:List UInt8)⟩:aF),p_r))
def Es(p_r:aU)(r:aF×aU):AV×WH:=((.agg (u7 r.1)),[(some (.cells (fZ r.2) false false))])
theorem TQ(d:Nat){p_r:aU}{r:aF×aU}(h:lQ p_r=some r):Spec (aQ aT (d+6)) 128 [(.ptr (some (0,0)))] [(some (.cells (fZ p_r) false false))] (Es p_r r).1 (Es p_r r).2:=by
 unfold lQ at h
 exact bK nB aBf h (.br 8 (λ_=>.bd λx1 q1=>Cl [] Fo [] (UJ (d+0) q1)<|.st none<|.st none<|.br 28 (λ_=>.bd λx2 q2=>Ix R_S 30 q2<|.bd λx3 q3=>Ix R_S 33 q3<|.st none<|.st none<|Fn Fo [] none) λ_=>.st none<|Fn Fo [] none) λ_=>.st none<|Fn Fo [] none)
def jZ(p_r:aU):Option (aB×aU) :=
 (iE 2 p_r).bind λ(x1:List Int×aU)=>(dH x1.1 0).bind λ(x2:Int)=>(dH x1.1 1).bind λ(x3:Int)=>cond (x1.2.e==0) ((kY x1.2.b).bind λ(x4:aJ×List UInt8×Int)=>some ((⟨x2,x3,x4.1⟩:aB),(⟨x4.2.1,x4.2.2⟩:aU))) (some ((⟨x2,x3,(⟨0,([]:List UInt8)⟩:aJ)⟩:aB),x1.2))
def Et(p_r:aU)(r:aB×aU):AV×WH:=((.agg (dM r.1)),[(some (.cells (fZ r.2) false false))])
theorem TR(d:Nat){p_r:aU}{r:aB×aU}(h:jZ p_r=some r):Spec (aQ aT (d+6)) 129 [(.ptr (some (0,0)))] [(some (.cells (fZ p_r) false false))] (Et p_r r).1 (Et p_r r).2:=by
 unfold jZ at h
 exact bK nB aBg h (.bd λx1 q1=>Cl [] Fo [] (vG (d+0) q1)<|.bd λx2 q2=>Ix Lc 7 q2<|.st none<|.bd λx3 q3=>Ix Lc 10 q3<|.st none<|.br 18 (λ_=>.bd λx4 q4=>Cl [] Fo [] (JC (d+0) q4)<|.st none<|.st none<|.st none<|.st none<|Fn Fo [] none) λ_=>.st none<|Fn Fo [] none)
def qU(x4:Int×aU)(x2:Int)(x3:Int)(s9:Int×aU×List aF):List AV×WH:=([(.ptr (some (0,0))),(.ptr (some (1,0))),(.int .i64 x4.1),(.int .i64 s9.1)],[(some (.cells [(.int .i64 x2),(.int .i64 x3),(.acc 2 0 2 s9.2.2.length true),(.acc 3 0 4 0 true)] false false)),(some (.cells (fZ s9.2.1) false false)),(some (.cells (aO s9.2.2) false true)),(some (.cells (aW []) false true))])
def vH(x4:Int×aU)(x2:Int)(x3:Int):(aU×List aF)→Ex×Fast×WH:=λe=>((.exit 0),[(2,(.ptr (some (0,0)))),(5,(.ptr (some (1,0))))],[(some (.cells [(.int .i64 x2),(.int .i64 x3),(.acc 2 0 2 e.2.length true),(.acc 3 0 4 0 true)] false false)),(some (.cells (fZ e.1) false false)),(some (.cells (aO e.2) false true)),(some (.cells (aW []) false true))])
abbrev P8(x4:Int×aU)(x2:Int)(x3:Int):=eF [2,5,21,22] (qU x4 x2 x3) (vH x4 x2 x3)
def jd(x4:Int×aU)(x2:Int)(x3:Int)(s9:Int×aU×List aF):Option ((Int×aU×List aF)⊕((aU×List aF))) :=
 cond (decide (s9.1<x4.1)) ((lQ s9.2.1).bind λ(x10:aF×aU)=>gd (dR 32 (s9.2.2++[x10.1]).length) (some (.inl ((IntKind.i64.wrap (s9.1+1)),x10.2,(s9.2.2++[x10.1]))))) (some (.inr (s9.2.1,s9.2.2)))
def qz(x4:Int×aU)(x2:Int)(x3:Int)(s9:Int×aU×List aF):Option ((aU×List aF)):=dG (jd x4 x2 x3) KK s9
theorem RP(d:Nat){x4:Int×aU}{x2:Int}{x3:Int}{s9:Int×aU×List aF}{r:(Int×aU×List aF)⊕((aU×List aF))}(h:jd x4 x2 x3 s9=some r):dx (bF (aQ aT (d+6)) KK 80 ahd) 0 (jM [2,5,21,22] (qU x4 x2 x3 s9)) (P8 x4 x2 x3 r):=by
 unfold jd at h
 exact bU nB al9 h (.br 23 (λ_=>.bd λx10 MG=>Cl [] Fo [] (TQ (d+0) MG)<|.gd λJ5=>Ap bn 29 J5<|.st none<|E0 [2,5,21,22]) λ_=>E0 [2,5])
theorem RQ(d:Nat){x4:Int×aU}{x2:Int}{x3:Int}{s9:Int×aU×List aF}{r:(aU×List aF)}(h:qz x4 x2 x3 s9=some r):dx (fQ (bF (aQ aT (d+6)) KK 80 ahd) [2,5,21,22] KK) 0 (jM [2,5,21,22] (qU x4 x2 x3 s9)) (vH x4 x2 x3 r) :=
 dS (st:=qU x4 x2 x3) (fin:=vH x4 x2 x3) (step:=jd x4 x2 x3) (λe=>by(intro h;cases h)) (λs x h=>RP d h) KK s9 r h
def qV(rV:Int×aU)(x2:Int)(x3:Int)(dZ:(aU×List aF))(s16:Int×aU×List aB):List AV×WH:=([(.ptr (some (0,0))),(.ptr (some (1,0))),(.int .i64 rV.1),(.int .i64 s16.1)],[(some (.cells [(.int .i64 x2),(.int .i64 x3),(.acc 2 0 2 dZ.2.length true),(.acc 3 0 4 s16.2.2.length true)] false false)),(some (.cells (fZ s16.2.1) false false)),(some (.cells (aO dZ.2) false true)),(some (.cells (aW s16.2.2) false true))])
def vI(rV:Int×aU)(x2:Int)(x3:Int)(dZ:(aU×List aF)):(aU×List aB)→Ex×Fast×WH:=λe=>((.exit 2),[(2,(.ptr (some (0,0)))),(5,(.ptr (some (1,0))))],[(some (.cells [(.int .i64 x2),(.int .i64 x3),(.acc 2 0 2 dZ.2.length true),(.acc 3 0 4 e.2.length true)] false false)),(some (.cells (fZ e.1) false false)),(some (.cells (aO dZ.2) false true)),(some (.cells (aW e.2) false true))])
abbrev P9(rV:Int×aU)(x2:Int)(x3:Int)(dZ:(aU×List aF)):=eF [2,5,33,34] (qV rV x2 x3 dZ) (vI rV x2 x3 dZ)
def je(rV:Int×aU)(x2:Int)(x3:Int)(dZ:(aU×List aF))(s16:Int×aU×List aB):Option ((Int×aU×List aB)⊕((aU×List aB))) :=
 cond (decide (s16.1<rV.1)) ((jZ s16.2.1).bind λ(kJ:aB×aU)=>gd (dR 40 (s16.2.2++[kJ.1]).length) (some (.inl ((IntKind.i64.wrap (s16.1+1)),kJ.2,(s16.2.2++[kJ.1]))))) (some (.inr (s16.2.1,s16.2.2)))
def mP(rV:Int×aU)(x2:Int)(x3:Int)(dZ:(aU×List aF))(s16:Int×aU×List aB):Option ((aU×List aB)):=dG (je rV x2 x3 dZ) KK s16
theorem RS(d:Nat){rV:Int×aU}{x2:Int}{x3:Int}{dZ:(aU×List aF)}{s16:Int×aU×List aB}{r:(Int×aU×List aB)⊕((aU×List aB))}(h:je rV x2 x3 dZ s16=some r):dx (bF (aQ aT (d+6)) KK 80 ahe) 0 (jM [2,5,33,34] (qV rV x2 x3 dZ s16)) (P9 rV x2 x3 dZ r):=by
 unfold je at h
 exact bU nB ama h (.br 35 (λ_=>.bd λkJ J4=>Cl [] Fo [] (TR (d+0) J4)<|.gd λYM=>Ap dQ 41 YM<|.st none<|E0 [2,5,33,34]) λ_=>E0 [2,5])
theorem RU(d:Nat){rV:Int×aU}{x2:Int}{x3:Int}{dZ:(aU×List aF)}{s16:Int×aU×List aB}{r:(aU×List aB)}(h:mP rV x2 x3 dZ s16=some r):dx (fQ (bF (aQ aT (d+6)) KK 80 ahe) [2,5,33,34] KK) 0 (jM [2,5,33,34] (qV rV x2 x3 dZ s16)) (vI rV x2 x3 dZ r) :=
 dS (st:=qV rV x2 x3 dZ) (fin:=vI rV x2 x3 dZ) (step:=je rV x2 x3 dZ) (λe=>by(intro h;cases h)) (λs x h=>RS d h) KK s16 r h
abbrev P_(qj:(aU×List aB))(x2:Int)(x3:Int)(dZ:(aU×List aF)):Fast×WH:=([(2,(.ptr (some (0,0)))),(5,(.ptr (some (1,0))))],[(some (.cells [(.int .i64 x2),(.int .i64 x3),(.acc 2 0 2 dZ.2.length true),(.acc 3 0 4 qj.2.length true)] false false)),(some (.cells (fZ qj.1) false false)),(some (.cells (aO dZ.2) false true)),(some (.cells (aW qj.2) false true))])
def Oy(qj:(aU×List aB))(x2:Int)(x3:Int)(dZ:(aU×List aF)):Bool→Ex×Fast×WH:=λe=>(.normal,[(2,(.ptr (some (0,0)))),(5,(.ptr (some (1,0)))),(53,(.bool e))],[(some (.cells [(.int .i64 x2),(.int .i64 x3),(.acc 2 0 2 dZ.2.length true),(.acc 3 0 4 qj.2.length true)] false false)),(some (.cells (fZ qj.1) false false)),(some (.cells (aO dZ.2) false true)),(some (.cells (aW qj.2) false true))])
def qA(qj:(aU×List aB))(x2:Int)(x3:Int)(dZ:(aU×List aF)):Option (Bool) :=
 cond (qj.1.e==0) ((mM (⟨x2,x3,dZ.2,qj.2⟩:aM)).bind λ(x20:Bool)=>some (!x20)) (some false)
theorem RV(d:Nat){qj:(aU×List aB)}{x2:Int}{x3:Int}{dZ:(aU×List aF)}{r:Bool}(h:qA qj x2 x3 dZ=some r):dx (bF (aQ aT (d+10)) KK 80 QL) 0 (P_ qj x2 x3 dZ) (Oy qj x2 x3 dZ r):=by
 unfold qA at h
 exact bU nB WM h (.br 49 (λ_=>.bd λx20 q20=>Cb [.agg [.undef,.undef,.slice none 2 0 0 true,.slice none 4 0 0 true]] (BJ (d+0) q20)<|E0 [2,5,53]) λ_=>E0 [2,5,53])
abbrev Qa(qj:(aU×List aB))(x2:Int)(x3:Int)(dZ:(aU×List aF)):Fast×WH:=([(2,(.ptr (some (0,0)))),(5,(.ptr (some (1,0))))],[(some (.cells [(.int .i64 x2),(.int .i64 x3),(.acc 2 0 2 dZ.2.length true),(.acc 3 0 4 qj.2.length true)] false false)),(some (.cells (fZ qj.1) false false)),(some (.cells (aO dZ.2) false true)),(some (.cells (aW qj.2) false true))])
def Oz(qj:(aU×List aB))(x2:Int)(x3:Int)(dZ:(aU×List aF)):aU→Ex×Fast×WH:=λe=>(.normal,[(2,(.ptr (some (0,0)))),(5,(.ptr (some (1,0))))],[(some (.cells [(.int .i64 x2),(.int .i64 x3),(.acc 2 0 2 dZ.2.length true),(.acc 3 0 4 qj.2.length true)] false false)),(some (.cells (fZ e) false false)),(some (.cells (aO dZ.2) false true)),(some (.cells (aW qj.2) false true))])
def jH(qj:(aU×List aB))(x2:Int)(x3:Int)(dZ:(aU×List aF)):Option (aU) :=
 (qA qj x2 x3 dZ).bind λ(x21:Bool)=>cond x21 (some (⟨qj.1.b,2⟩:aU)) (some qj.1)
theorem RX(d:Nat){qj:(aU×List aB)}{x2:Int}{x3:Int}{dZ:(aU×List aF)}{r:aU}(h:jH qj x2 x3 dZ=some r):dx (bF (aQ aT (d+10)) KK 80 Uk) 0 (Qa qj x2 x3 dZ) (Oz qj x2 x3 dZ r):=by
 unfold jH at h
 exact bU nB YI h (.bd λx21 q21=>Jn [2,5] [none,none] [] [] (RV (d+0) q21)<|.br 53 (λ_=>.st none<|E0 [2,5]) λ_=>E0 [2,5])
def nX(bS:List UInt8):Option (aM×List UInt8×Int) :=
 (iE 2 (⟨bS,0⟩:aU)).bind λ(x1:List Int×aU)=>(dH x1.1 0).bind λ(x2:Int)=>(dH x1.1 1).bind λ(x3:Int)=>(ig 8 x1.2).bind λ(x4:Int×aU)=>(qz x4 x2 x3 (0,x4.2,[])).bind λ(dZ:(aU×List aF))=>(ig 4 dZ.1).bind λ(rV:Int×aU)=>(mP rV x2 x3 dZ (0,rV.2,[])).bind λ(qj:(aU×List aB))=>(jH qj x2 x3 dZ).bind λ(I9:aU)=>cond (I9.e != 0) (some ((⟨0,0,[],[]⟩:aM),[],I9.e)) (some ((⟨x2,x3,dZ.2,qj.2⟩:aM),I9.b,0))
def Hg(bS:List UInt8)(r:aM×List UInt8×Int):AV×WH:=((.tuple [(.agg (dB r.1)),(rC r.2.1),(.int .i64 r.2.2)]),[])
theorem XG(d:Nat){bS:List UInt8}{r:aM×List UInt8×Int}(h:nX bS=some r):Spec (aQ aT (d+11)) 105 [(rC bS)] [] (Hg bS r).1 (Hg bS r).2:=by
 unfold nX at h
 exact bK (KG _) aAU h (.z 2 [.undef,.undef,.slice none 2 0 0 true,.slice none 4 0 0 true]<|.bd λx1 q1=>Cl [] Fo [] (vG (d+5) q1)<|.bd λx2 q2=>Ix Lc 13 q2<|.st none<|.bd λx3 q3=>Ix Lc 16 q3<|.st none<|.bd λx4 q4=>Cl [] Fo [] (F8 (d+4) q4)<|.bd λdZ MO=>Lp [none,none,none,none] [Tw,Tw,Tw,Tw] [] (RQ (d+4) MO)<|.bd λrV YL=>Cl [] Fo [] (F8 (d+4) YL)<|.bd λqj Uq=>Lp [none,none,none,none] [] [] (RU (d+4) Uq)<|.bd λI9 q22=>Jn [2,5] [none,none] [] [] (RX (d+0) q22)<|.br 61 (λ_=>.z 62 [.agg [.undef,.undef,.slice none 2 0 0 true,.slice none 4 0 0 true]]<|.st none<|Fn Fo [.tuple [.agg [.undef,.undef,.slice none 2 0 0 true,.slice none 4 0 0 true],.undef,.undef]] none) λ_=>.st none<|.st none<|.st none<|.er<|.ob (rfl:@Eq (Option AV) (some (rC I9.b)) (some (rC I9.b)))<|Fn Fo [.tuple [.agg [.undef,.undef,.slice none 2 0 0 true,.slice none 4 0 0 true],.undef,.undef]] none)
abbrev L8(x10:Int×aX)(x2:Int)(x3:Int)(x4:Int)(x5:Int)(x6:Int)(x7:Int)(x8:Int)(x9:Int):Fast×WH:=([(0,(.ptr (some (0,0)))),(2,(.ptr (some (1,0))))],[(some (.cells (gM x10.2) false false)),(some (.cells [(.int .i64 x2),(.int .i64 x3),(.int .i64 x4),(.int .i64 x5),(.int .i64 x6),(.int .i64 x7),(.int .i64 x8),(.int .i64 x9),(.bool (x10.1==1)),(.int .i64 0),(.int .i64 0),(.int .i64 0),(.str ([]:List UInt8)),(.str ([]:List UInt8)),(.str ([]:List UInt8)),(.int .i64 0),(.str ([]:List UInt8)),(.slice none 1 0 0 true),(.slice none 5 0 0 true),(.int .i64 0),(.int .i64 0),(.slice none 2 0 0 true),(.slice none 4 0 0 true)] false false))])
def Kj(x10:Int×aX)(x2:Int)(x3:Int)(x4:Int)(x5:Int)(x6:Int)(x7:Int)(x8:Int)(x9:Int):(aX×Int×Int×Int×List UInt8×List UInt8×List UInt8)→Ex×Fast×WH:=λe=>(.normal,[(0,(.ptr (some (0,0)))),(2,(.ptr (some (1,0))))],[(some (.cells (gM e.1) false false)),(some (.cells [(.int .i64 x2),(.int .i64 x3),(.int .i64 x4),(.int .i64 x5),(.int .i64 x6),(.int .i64 x7),(.int .i64 x8),(.int .i64 x9),(.bool (x10.1==1)),(.int .i64 e.2.1),(.int .i64 e.2.2.1),(.int .i64 e.2.2.2.1),(.str e.2.2.2.2.1),(.str e.2.2.2.2.2.1),(.str e.2.2.2.2.2.2),(.int .i64 0),(.str ([]:List UInt8)),(.slice none 1 0 0 true),(.slice none 5 0 0 true),(.int .i64 0),(.int .i64 0),(.slice none 2 0 0 true),(.slice none 4 0 0 true)] false false))])
def kD(x10:Int×aX)(x2:Int)(x3:Int)(x4:Int)(x5:Int)(x6:Int)(x7:Int)(x8:Int)(x9:Int):Option ((aX×Int×Int×Int×List UInt8×List UInt8×List UInt8)) :=
 cond (x10.2.e==0) ((tJ x10.2.b).bind λ(dV:bJ×List UInt8×Int)=>some ((⟨dV.2.1,dV.2.2⟩:aX),dV.1.Client,dV.1.Seq,dV.1.Op.Kind,dV.1.Op.Key,dV.1.Op.Value,dV.1.Op.Old)) (some (x10.2,0,0,0,([]:List UInt8),([]:List UInt8),([]:List UInt8)))
theorem Nv(d:Nat){x10:Int×aX}{x2:Int}{x3:Int}{x4:Int}{x5:Int}{x6:Int}{x7:Int}{x8:Int}{x9:Int}{r:(aX×Int×Int×Int×List UInt8×List UInt8×List UInt8)}(h:kD x10 x2 x3 x4 x5 x6 x7 x8 x9=some r):dx (bF (aQ aT (d+6)) KK 128 acS) 1 (L8 x10 x2 x3 x4 x5 x6 x7 x8 x9) (Kj x10 x2 x3 x4 x5 x6 x7 x8 x9 r):=by
 unfold kD at h
 exact bU nB aeu h (.br 46 (λ_=>.bd λdV J5=>Cl [] Fo [] (abb (d+0) J5)<|.st none<|.st none<|.st none<|E0 [0,2]) λ_=>E0 [0,2])
abbrev L9(dZ:(aX×Int×Int×Int×List UInt8×List UInt8×List UInt8))(x2:Int)(x3:Int)(x4:Int)(x5:Int)(x6:Int)(x7:Int)(x8:Int)(x9:Int)(x10:Int×aX):Fast×WH:=([(0,(.ptr (some (0,0)))),(2,(.ptr (some (1,0))))],[(some (.cells (gM dZ.1) false false)),(some (.cells [(.int .i64 x2),(.int .i64 x3),(.int .i64 x4),(.int .i64 x5),(.int .i64 x6),(.int .i64 x7),(.int .i64 x8),(.int .i64 x9),(.bool (x10.1==1)),(.int .i64 dZ.2.1),(.int .i64 dZ.2.2.1),(.int .i64 dZ.2.2.2.1),(.str dZ.2.2.2.2.1),(.str dZ.2.2.2.2.2.1),(.str dZ.2.2.2.2.2.2),(.int .i64 0),(.str ([]:List UInt8)),(.slice none 1 0 0 true),(.slice none 5 0 0 true),(.int .i64 0),(.int .i64 0),(.slice none 2 0 0 true),(.slice none 4 0 0 true)] false false))])
def Kk(dZ:(aX×Int×Int×Int×List UInt8×List UInt8×List UInt8))(x2:Int)(x3:Int)(x4:Int)(x5:Int)(x6:Int)(x7:Int)(x8:Int)(x9:Int)(x10:Int×aX):(aX×Int×List UInt8)→Ex×Fast×WH:=λe=>(.normal,[(0,(.ptr (some (0,0)))),(2,(.ptr (some (1,0))))],[(some (.cells (gM e.1) false false)),(some (.cells [(.int .i64 x2),(.int .i64 x3),(.int .i64 x4),(.int .i64 x5),(.int .i64 x6),(.int .i64 x7),(.int .i64 x8),(.int .i64 x9),(.bool (x10.1==1)),(.int .i64 dZ.2.1),(.int .i64 dZ.2.2.1),(.int .i64 dZ.2.2.2.1),(.str dZ.2.2.2.2.1),(.str dZ.2.2.2.2.2.1),(.str dZ.2.2.2.2.2.2),(.int .i64 e.2.1),(.str e.2.2),(.slice none 1 0 0 true),(.slice none 5 0 0 true),(.int .i64 0),(.int .i64 0),(.slice none 2 0 0 true),(.slice none 4 0 0 true)] false false))])
def kE(dZ:(aX×Int×Int×Int×List UInt8×List UInt8×List UInt8))(x2:Int)(x3:Int)(x4:Int)(x5:Int)(x6:Int)(x7:Int)(x8:Int)(x9:Int)(x10:Int×aX):Option ((aX×Int×List UInt8)) :=
 cond (dZ.1.e==0) ((kY dZ.1.b).bind λ(rV:aJ×List UInt8×Int)=>some ((⟨rV.2.1,rV.2.2⟩:aX),rV.1.Why,rV.1.Value)) (some (dZ.1,0,([]:List UInt8)))
theorem Nw(d:Nat){dZ:(aX×Int×Int×Int×List UInt8×List UInt8×List UInt8)}{x2:Int}{x3:Int}{x4:Int}{x5:Int}{x6:Int}{x7:Int}{x8:Int}{x9:Int}{x10:Int×aX}{r:(aX×Int×List UInt8)}(h:kE dZ x2 x3 x4 x5 x6 x7 x8 x9 x10=some r):dx (bF (aQ aT (d+5)) KK 128 Z8) 1 (L9 dZ x2 x3 x4 x5 x6 x7 x8 x9 x10) (Kk dZ x2 x3 x4 x5 x6 x7 x8 x9 x10 r):=by
 unfold kE at h
 exact bU nB acT h (.br 67 (λ_=>.bd λrV YL=>Cl [] Fo [] (JC (d+0) YL)<|.st none<|.st none<|.st none<|E0 [0,2]) λ_=>E0 [0,2])
def nC(kJ:Int×aX)(x2:Int)(x3:Int)(x4:Int)(x5:Int)(x6:Int)(x7:Int)(x8:Int)(x9:Int)(x10:Int×aX)(dZ:(aX×Int×Int×Int×List UInt8×List UInt8×List UInt8))(nO:(aX×Int×List UInt8))(Bz:List Int×aX)(XH:Int×aX×List aI):List AV×WH:=([(.ptr (some (0,0))),(.ptr (some (1,0))),(.int .i64 kJ.1),(.int .i64 XH.1)],[(some (.cells (gM XH.2.1) false false)),(some (.cells [(.int .i64 x2),(.int .i64 x3),(.int .i64 x4),(.int .i64 x5),(.int .i64 x6),(.int .i64 x7),(.int .i64 x8),(.int .i64 x9),(.bool (x10.1==1)),(.int .i64 dZ.2.1),(.int .i64 dZ.2.2.1),(.int .i64 dZ.2.2.2.1),(.str dZ.2.2.2.2.1),(.str dZ.2.2.2.2.2.1),(.str dZ.2.2.2.2.2.2),(.int .i64 nO.2.1),(.str nO.2.2),(.list 1 Bz.1.length (uY Bz.1) true),(.acc 2 0 5 XH.2.2.length true),(.int .i64 0),(.int .i64 0),(.acc 3 0 2 0 true),(.acc 4 0 4 0 true)] false false)),(some (.cells (bP XH.2.2) false true)),(some (.cells (aO []) false true)),(some (.cells (aW []) false true))])
def rT(kJ:Int×aX)(x2:Int)(x3:Int)(x4:Int)(x5:Int)(x6:Int)(x7:Int)(x8:Int)(x9:Int)(x10:Int×aX)(dZ:(aX×Int×Int×Int×List UInt8×List UInt8×List UInt8))(nO:(aX×Int×List UInt8))(Bz:List Int×aX):(aX×List aI)→Ex×Fast×WH:=λe=>((.exit 0),[(0,(.ptr (some (0,0)))),(2,(.ptr (some (1,0))))],[(some (.cells (gM e.1) false false)),(some (.cells [(.int .i64 x2),(.int .i64 x3),(.int .i64 x4),(.int .i64 x5),(.int .i64 x6),(.int .i64 x7),(.int .i64 x8),(.int .i64 x9),(.bool (x10.1==1)),(.int .i64 dZ.2.1),(.int .i64 dZ.2.2.1),(.int .i64 dZ.2.2.2.1),(.str dZ.2.2.2.2.1),(.str dZ.2.2.2.2.2.1),(.str dZ.2.2.2.2.2.2),(.int .i64 nO.2.1),(.str nO.2.2),(.list 1 Bz.1.length (uY Bz.1) true),(.acc 2 0 5 e.2.length true),(.int .i64 0),(.int .i64 0),(.acc 3 0 2 0 true),(.acc 4 0 4 0 true)] false false)),(some (.cells (bP e.2) false true)),(some (.cells (aO []) false true)),(some (.cells (aW []) false true))])
abbrev L_(kJ:Int×aX)(x2:Int)(x3:Int)(x4:Int)(x5:Int)(x6:Int)(x7:Int)(x8:Int)(x9:Int)(x10:Int×aX)(dZ:(aX×Int×Int×Int×List UInt8×List UInt8×List UInt8))(nO:(aX×Int×List UInt8))(Bz:List Int×aX):=eF [0,2,91,92] (nC kJ x2 x3 x4 x5 x6 x7 x8 x9 x10 dZ nO Bz) (rT kJ x2 x3 x4 x5 x6 x7 x8 x9 x10 dZ nO Bz)
def nU(kJ:Int×aX)(x2:Int)(x3:Int)(x4:Int)(x5:Int)(x6:Int)(x7:Int)(x8:Int)(x9:Int)(x10:Int×aX)(dZ:(aX×Int×Int×Int×List UInt8×List UInt8×List UInt8))(nO:(aX×Int×List UInt8))(Bz:List Int×aX)(XH:Int×aX×List aI):Option ((Int×aX×List aI)⊕((aX×List aI))) :=
 cond (decide (XH.1<kJ.1)) ((jS XH.2.1).bind λ(x23:aI×aX)=>gd (dR 40 (XH.2.2++[x23.1]).length) (some (.inl ((IntKind.i64.wrap (XH.1+1)),x23.2,(XH.2.2++[x23.1]))))) (some (.inr (XH.2.1,XH.2.2)))
def qW(kJ:Int×aX)(x2:Int)(x3:Int)(x4:Int)(x5:Int)(x6:Int)(x7:Int)(x8:Int)(x9:Int)(x10:Int×aX)(dZ:(aX×Int×Int×Int×List UInt8×List UInt8×List UInt8))(nO:(aX×Int×List UInt8))(Bz:List Int×aX)(XH:Int×aX×List aI):Option ((aX×List aI)):=dG (nU kJ x2 x3 x4 x5 x6 x7 x8 x9 x10 dZ nO Bz) KK XH
theorem Ny(d:Nat){kJ:Int×aX}{x2:Int}{x3:Int}{x4:Int}{x5:Int}{x6:Int}{x7:Int}{x8:Int}{x9:Int}{x10:Int×aX}{dZ:(aX×Int×Int×Int×List UInt8×List UInt8×List UInt8)}{nO:(aX×Int×List UInt8)}{Bz:List Int×aX}{XH:Int×aX×List aI}{r:(Int×aX×List aI)⊕((aX×List aI))}(h:nU kJ x2 x3 x4 x5 x6 x7 x8 x9 x10 dZ nO Bz XH=some r):dx (bF (aQ aT (d+7)) KK 128 alT) 1 (jM [0,2,91,92] (nC kJ x2 x3 x4 x5 x6 x7 x8 x9 x10 dZ nO Bz XH)) (L_ kJ x2 x3 x4 x5 x6 x7 x8 x9 x10 dZ nO Bz r):=by
 unfold nU at h
 exact bU nB aoR h (.br 93 (λ_=>.bd λx23 q23=>Cl [] Fo [] (VD (d+0) q23)<|.gd λq24=>Ap lX 99 q24<|.st none<|E0 [0,2,91,92]) λ_=>E0 [0,2])
theorem Nz(d:Nat){kJ:Int×aX}{x2:Int}{x3:Int}{x4:Int}{x5:Int}{x6:Int}{x7:Int}{x8:Int}{x9:Int}{x10:Int×aX}{dZ:(aX×Int×Int×Int×List UInt8×List UInt8×List UInt8)}{nO:(aX×Int×List UInt8)}{Bz:List Int×aX}{XH:Int×aX×List aI}{r:(aX×List aI)}(h:qW kJ x2 x3 x4 x5 x6 x7 x8 x9 x10 dZ nO Bz XH=some r):dx (fQ (bF (aQ aT (d+7)) KK 128 alT) [0,2,91,92] KK) 1 (jM [0,2,91,92] (nC kJ x2 x3 x4 x5 x6 x7 x8 x9 x10 dZ nO Bz XH)) (rT kJ x2 x3 x4 x5 x6 x7 x8 x9 x10 dZ nO Bz r) :=
 dS (st:=nC kJ x2 x3 x4 x5 x6 x7 x8 x9 x10 dZ nO Bz) (fin:=rT kJ x2 x3 x4 x5 x6 x7 x8 x9 x10 dZ nO Bz) (step:=nU kJ x2 x3 x4 x5 x6 x7 x8 x9 x10 dZ nO Bz) (λe=>by(intro h;cases h)) (λs x h=>Ny d h) KK XH r h
def qB(p_r:aX):Option (aG×aX) :=
 (fI 8 p_r).bind λ(x1:List Int×aX)=>(dH x1.1 0).bind λ(x2:Int)=>(dH x1.1 1).bind λ(x3:Int)=>(dH x1.1 2).bind λ(x4:Int)=>(dH x1.1 3).bind λ(x5:Int)=>(dH x1.1 4).bind λ(x6:Int)=>(dH x1.1 5).bind λ(x7:Int)=>(dH x1.1 6).bind λ(x8:Int)=>(dH x1.1 7).bind λ(x9:Int)=>(gu 1 x1.2).bind λ(x10:Int×aX)=>(kD x10 x2 x3 x4 x5 x6 x7 x8 x9).bind λ(dZ:(aX×Int×Int×Int×List UInt8×List UInt8×List UInt8))=>(kE dZ x2 x3 x4 x5 x6 x7 x8 x9 x10).bind λ(nO:(aX×Int×List UInt8))=>(gu 5 nO.1).bind λ(dP:Int×aX)=>(fI dP.1 dP.2).bind λ(Bz:List Int×aX)=>(gu 5 Bz.2).bind λ(kJ:Int×aX)=>(qW kJ x2 x3 x4 x5 x6 x7 x8 x9 x10 dZ nO Bz (0,kJ.2,[])).bind λ(x25:(aX×List aI))=>cond (x25.1.e==0) ((nX x25.1.b).bind λ(jL:aM×List UInt8×Int)=>some ((⟨x2,x3,x4,x5,x6,x7,x8,x9,(x10.1==1),(⟨dZ.2.1,dZ.2.2.1,(⟨dZ.2.2.2.1,dZ.2.2.2.2.1,dZ.2.2.2.2.2.1,dZ.2.2.2.2.2.2⟩:bZ)⟩:bJ),(⟨nO.2.1,nO.2.2⟩:aJ),Bz.1,x25.2,jL.1⟩:aG),(⟨jL.2.1,jL.2.2⟩:aX))) (some ((⟨x2,x3,x4,x5,x6,x7,x8,x9,(x10.1==1),(⟨dZ.2.1,dZ.2.2.1,(⟨dZ.2.2.2.1,dZ.2.2.2.2.1,dZ.2.2.2.2.2.1,dZ.2.2.2.2.2.2⟩:bZ)⟩:bJ),(⟨nO.2.1,nO.2.2⟩:aJ),Bz.1,x25.2,(⟨0,0,[],[]⟩:aM)⟩:aG),x25.1))
def DV(p_r:aX)(r:aG×aX):AV×WH:=((.agg (dI r.1)),[(some (.cells (gM r.2) false false))])
theorem RY(d:Nat){p_r:aX}{r:aG×aX}(h:qB p_r=some r):Spec (aQ aT (d+12)) 65 [(.ptr (some (0,0)))] [(some (.cells (gM p_r) false false))] (DV p_r r).1 (DV p_r r).2:=by
 unfold qB at h
 exact bK (KG _) aCY h (.z 2 [.undef,.undef,.undef,.undef,.undef,.undef,.undef,.undef,.undef,.undef,.undef,.undef,.undef,.undef,.undef,.undef,.undef,.slice none 1 0 0 true,.slice none 5 0 0 true,.undef,.undef,.slice none 2 0 0 true,.slice none 4 0 0 true]<|.bd λx1 q1=>Cl [] Fo [] (sV (d+6) q1)<|.bd λx2 q2=>Ix Lc 7 q2<|.st none<|.bd λx3 q3=>Ix Lc 10 q3<|.st none<|.bd λx4 q4=>Ix Lc 13 q4<|.st none<|.bd λx5 q5=>Ix Lc 16 q5<|.st none<|.bd λx6 q6=>Ix Lc 19 q6<|.st none<|.bd λx7 q7=>Ix Lc 22 q7<|.st none<|.bd λx8 q8=>Ix Lc 25 q8<|.st none<|.bd λx9 q9=>Ix Lc 28 q9<|.st none<|.bd λx10 MG=>Cl [] Fo [] (xk (d+5) MG)<|.st none<|.bd λdZ MO=>Jn [0,2] [none,none] [] [] (Nv (d+5) MO)<|.bd λnO PZ=>Jn [0,2] [none,none] [] [] (Nw (d+6) PZ)<|.bd λdP Md=>Cl [] Fo [] (xk (d+5) Md)<|.bd λBz q16=>Cl [] Fo [] (sV (d+6) q16)<|.st none<|.bd λkJ J4=>Cl [] Fo [] (xk (d+5) J4)<|.bd λx25 q25=>Lp [none,none,none,none] [Tw,Tw,Tw,Tw,Tw] [] (Nz (d+4) q25)<|.st none<|.br 110 (λ_=>.bd λjL q26=>Cl [] Fo [] (XG (d+0) q26)<|.st none<|.st none<|.st none<|.st none<|Fn Fo [.agg [.undef,.undef,.undef,.undef,.undef,.undef,.undef,.undef,.undef,.undef,.undef,.undef,.undef,.undef,.undef,.undef,.undef,.slice none 1 0 0 true,.slice none 5 0 0 true,.undef,.undef,.slice none 2 0 0 true,.slice none 4 0 0 true]] none) λ_=>.st none<|Fn Fo [.agg [.undef,.undef,.undef,.undef,.undef,.undef,.undef,.undef,.undef,.undef,.undef,.undef,.undef,.undef,.undef,.undef,.undef,.slice none 1 0 0 true,.slice none 5 0 0 true,.undef,.undef,.slice none 2 0 0 true,.slice none 4 0 0 true]] none)
abbrev adJ(x1:aG×aX):Fast×WH:=([(2,(.ptr (some (0,0)))),(4,(.ptr (some (1,0)))),(5,(.ptr (some (2,0))))],[(some (.cells [(.int .i64 0),(.int .i64 0),(.int .i64 0),(.int .i64 0),(.int .i64 0),(.int .i64 0),(.int .i64 0),(.int .i64 0),(.bool false),(.int .i64 0),(.int .i64 0),(.int .i64 0),(.str ([]:List UInt8)),(.str ([]:List UInt8)),(.str ([]:List UInt8)),(.int .i64 0),(.str ([]:List UInt8)),(.slice none 1 0 0 true),(.slice none 5 0 0 true),(.int .i64 0),(.int .i64 0),(.slice none 2 0 0 true),(.slice none 4 0 0 true)] false false)),(some (.cells (gM x1.2) false false)),(some (.cells (dI x1.1) false false))])
def abd(x1:aG×aX):Bool→Ex×Fast×WH:=λe=>(.normal,[(2,(.ptr (some (0,0)))),(4,(.ptr (some (1,0)))),(5,(.ptr (some (2,0)))),(28,(.bool e))],[(some (.cells [(.int .i64 0),(.int .i64 0),(.int .i64 0),(.int .i64 0),(.int .i64 0),(.int .i64 0),(.int .i64 0),(.int .i64 0),(.bool false),(.int .i64 0),(.int .i64 0),(.int .i64 0),(.str ([]:List UInt8)),(.str ([]:List UInt8)),(.str ([]:List UInt8)),(.int .i64 0),(.str ([]:List UInt8)),(.slice none 1 0 0 true),(.slice none 5 0 0 true),(.int .i64 0),(.int .i64 0),(.slice none 2 0 0 true),(.slice none 4 0 0 true)] false false)),(some (.cells (gM x1.2) false false)),(some (.cells (dI x1.1) false false))])
def F9(x1:aG×aX):Option (Bool) :=
 cond (x1.2.e==0) (cond (decide ((x1.2.b.length:Int)>0)) (some true) ((Cn x1.1).bind λ(x2:Bool)=>some (!x2))) (some false)
theorem aeZ(d:Nat){x1:aG×aX}{r:Bool}(h:F9 x1=some r):dx (bF (aQ aT (d+11)) KK 43 acI) 0 (adJ x1) (abd x1 r):=by
 unfold F9 at h
 exact bU nB aer h (.br 16 (λ_=>.br 23 (λ_=>E0 [2,4,5,28]) λ_=>.bd λx2 q2=>Cb [.agg [.undef,.undef,.undef,.undef,.undef,.undef,.undef,.undef,.undef,.undef,.undef,.undef,.undef,.undef,.undef,.undef,.undef,.slice none 1 0 0 true,.slice none 5 0 0 true,.undef,.undef,.slice none 2 0 0 true,.slice none 4 0 0 true]] (KV (d+0) q2)<|E0 [2,4,5,28]) λ_=>E0 [2,4,5,28])
abbrev adK(x1:aG×aX):Fast×WH:=([(2,(.ptr (some (0,0)))),(4,(.ptr (some (1,0)))),(5,(.ptr (some (2,0))))],[(some (.cells [(.int .i64 0),(.int .i64 0),(.int .i64 0),(.int .i64 0),(.int .i64 0),(.int .i64 0),(.int .i64 0),(.int .i64 0),(.bool false),(.int .i64 0),(.int .i64 0),(.int .i64 0),(.str ([]:List UInt8)),(.str ([]:List UInt8)),(.str ([]:List UInt8)),(.int .i64 0),(.str ([]:List UInt8)),(.slice none 1 0 0 true),(.slice none 5 0 0 true),(.int .i64 0),(.int .i64 0),(.slice none 2 0 0 true),(.slice none 4 0 0 true)] false false)),(some (.cells (gM x1.2) false false)),(some (.cells (dI x1.1) false false))])
def abe(x1:aG×aX):aX→Ex×Fast×WH:=λe=>(.normal,[(2,(.ptr (some (0,0)))),(4,(.ptr (some (1,0)))),(5,(.ptr (some (2,0))))],[(some (.cells [(.int .i64 0),(.int .i64 0),(.int .i64 0),(.int .i64 0),(.int .i64 0),(.int .i64 0),(.int .i64 0),(.int .i64 0),(.bool false),(.int .i64 0),(.int .i64 0),(.int .i64 0),(.str ([]:List UInt8)),(.str ([]:List UInt8)),(.str ([]:List UInt8)),(.int .i64 0),(.str ([]:List UInt8)),(.slice none 1 0 0 true),(.slice none 5 0 0 true),(.int .i64 0),(.int .i64 0),(.slice none 2 0 0 true),(.slice none 4 0 0 true)] false false)),(some (.cells (gM e) false false)),(some (.cells (dI x1.1) false false))])
def Ga(x1:aG×aX):Option (aX) :=
 (F9 x1).bind λ(x3:Bool)=>cond x3 (some (⟨x1.2.b,2⟩:aX)) (some x1.2)
theorem ae0(d:Nat){x1:aG×aX}{r:aX}(h:Ga x1=some r):dx (bF (aQ aT (d+11)) KK 43 afK) 0 (adK x1) (abe x1 r):=by
 unfold Ga at h
 exact bU nB ag7 h (.bd λx3 q3=>Jn [2,4,5] [none,none,none] [] [] (aeZ (d+0) q3)<|.br 28 (λ_=>.st none<|E0 [2,4,5]) λ_=>E0 [2,4,5])
def JD(bS:List UInt8):Option (aG×Int) :=
 (qB (⟨bS,0⟩:aX)).bind λ(x1:aG×aX)=>(Ga x1).bind λ(x4:aX)=>cond (x4.e != 0) (some ((⟨0,0,0,0,0,0,0,0,false,(⟨0,0,(⟨0,([]:List UInt8),([]:List UInt8),([]:List UInt8)⟩:bZ)⟩:bJ),(⟨0,([]:List UInt8)⟩:aJ),[],[],(⟨0,0,[],[]⟩:aM)⟩:aG),x4.e)) (some (x1.1,0))
def XI(bS:List UInt8)(r:aG×Int):AV×WH:=((.tuple [(.agg (dI r.1)),(.int .i64 r.2)]),[])
theorem adL(d:Nat){bS:List UInt8}{r:aG×Int}(h:JD bS=some r):Spec (aQ aT (d+13)) 17 [(rC bS)] [] (XI bS r).1 (XI bS r).2:=by
 unfold JD at h
 exact bK nB aCi h (.z 2 [.undef,.undef,.undef,.undef,.undef,.undef,.undef,.undef,.undef,.undef,.undef,.undef,.undef,.undef,.undef,.undef,.undef,.slice none 1 0 0 true,.slice none 5 0 0 true,.undef,.undef,.slice none 2 0 0 true,.slice none 4 0 0 true]<|.bd λx1 q1=>Cl [] Fo [] (RY (d+0) q1)<|.z 5 [.undef,.undef,.undef,.undef,.undef,.undef,.undef,.undef,.undef,.undef,.undef,.undef,.undef,.undef,.undef,.undef,.undef,.slice none 1 0 0 true,.slice none 5 0 0 true,.undef,.undef,.slice none 2 0 0 true,.slice none 4 0 0 true]<|.st none<|.bd λx4 q4=>Jn [2,4,5] [none,none,none] [] [] (ae0 (d+1) q4)<|.br 36 (λ_=>.z 37 [.agg [.undef,.undef,.undef,.undef,.undef,.undef,.undef,.undef,.undef,.undef,.undef,.undef,.undef,.undef,.undef,.undef,.undef,.slice none 1 0 0 true,.slice none 5 0 0 true,.undef,.undef,.slice none 2 0 0 true,.slice none 4 0 0 true]]<|.st none<|Fn Fo [.tuple [.agg [.undef,.undef,.undef,.undef,.undef,.undef,.undef,.undef,.undef,.undef,.undef,.undef,.undef,.undef,.undef,.undef,.undef,.slice none 1 0 0 true,.slice none 5 0 0 true,.undef,.undef,.slice none 2 0 0 true,.slice none 4 0 0 true],.undef]] none) λ_=>.st none<|Fn Fo [.tuple [.agg [.undef,.undef,.undef,.undef,.undef,.undef,.undef,.undef,.undef,.undef,.undef,.undef,.undef,.undef,.undef,.undef,.undef,.slice none 1 0 0 true,.slice none 5 0 0 true,.undef,.undef,.slice none 2 0 0 true,.slice none 4 0 0 true],.undef]] none)
def Fp(bS:List UInt8)(s2:Int):List AV×WH:=([(rC bS),(.int .i64 s2)],[])
def JE(bS:List UInt8):Unit⊕Unit→Ex×Fast×WH:=fun
 |.inl e=>(.ret,[(4,(.int .i64 2))],[])
 |.inr e=>((.exit 0),[],[])
abbrev ae1(bS:List UInt8):=eF [0,5] (Fp bS) (JE bS)
def DW(bS:List UInt8)(s2:Int):Option ((Int)⊕(Unit⊕Unit)) :=
 cond (decide (s2<(bS.length:Int))) ((dH bS s2).bind λ(x3:UInt8)=>cond (decide ((x3.toNat:Int)<128)) (some (.inr (.inl ()))) (some (.inl (IntKind.i64.wrap (s2+1))))) (some (.inr (.inr ())))
def VE(bS:List UInt8)(s2:Int):Option (Unit⊕Unit):=dG (DW bS) KK s2
theorem ahM(d:Nat){bS:List UInt8}{s2:Int}{r:(Int)⊕(Unit⊕Unit)}(h:DW bS s2=some r):dx (bF (aQ aT (d+0)) KK 18 ahm) 0 (jM [0,5] (Fp bS s2)) (ae1 bS r):=by
 unfold DW at h
 exact bU nB amh h (.br 10 (λ_=>.bd λx3 q3=>Ix Yf 15 q3<|.br 17 (λ_=>E0 [4]) λ_=>E0 [0,5]) λ_=>E0 [])
theorem XJ(d:Nat){bS:List UInt8}{s2:Int}{r:Unit⊕Unit}(h:VE bS s2=some r):dx (fQ (bF (aQ aT (d+0)) KK 18 ahm) [0,5] KK) 0 (jM [0,5] (Fp bS s2)) (JE bS r) :=
 dS (st:=Fp bS) (fin:=JE bS) (step:=DW bS) (λe=>by rcases e with e | e<;>(intro h;cases h)) (λs x h=>ahM d h) KK s2 r h
def XK(bS:List UInt8)(VF:Int):Option (Int) :=
 (VE bS VF).bind λ(x4:Unit⊕Unit)=>cond (jY x4) (some 2) (some 3)
def aam(bS:List UInt8)(VF:Int)(r:Int):AV×WH:=((.int .i64 r),[])
theorem ao9(d:Nat){bS:List UInt8}{VF:Int}{r:Int}(h:XK bS VF=some r):Spec (aQ aT (d+1)) 132 [(rC bS),(.int .i64 VF)] [] (aam bS VF r).1 (aam bS VF r).2:=by
 unfold XK at h
 exact bK nB aBh h (.bd λx4 q4=>.ite (λhb5=>Lp [none,none] [] [] (kI (il hb5) (XJ (d+0) q4))<|Fn Fo [] none) λhb5=>Lp [none,none] [] [] (kI (Ai hb5) (XJ (d+0) q4))<|Fn Fo [] none)
abbrev ae2(s11:Int×Int)(dZ:UInt8)(bS:List UInt8):Fast×WH:=([(0,(rC bS)),(5,(.int .i64 s11.1)),(6,(.int .i64 s11.2)),(7,(.int .i64 (IntKind.i64.wrap (dZ.toNat:Int))))],[])
def adM(s11:Int×Int)(dZ:UInt8)(bS:List UInt8):Bool→Ex×Fast×WH:=λe=>(.normal,[(0,(rC bS)),(5,(.int .i64 s11.1)),(6,(.int .i64 s11.2)),(7,(.int .i64 (IntKind.i64.wrap (dZ.toNat:Int)))),(29,(.bool e))],[])
def BO(s11:Int×Int)(dZ:UInt8)(bS:List UInt8):Option (Bool) :=
 cond (s11.2==9) (some true) (cond (s11.2==8) (some (decide ((Int.tmod (IntKind.i64.wrap (dZ.toNat:Int)) 128)≥64))) (some false))
theorem ahN(d:Nat){s11:Int×Int}{dZ:UInt8}{bS:List UInt8}{r:Bool}(h:BO s11 dZ bS=some r):dx (bF (aQ aT (d+0)) KK 56 I6) 0 (ae2 s11 dZ bS) (adM s11 dZ bS r):=by
 unfold BO at h
 exact bU nB PY h (.br 21 (λ_=>E0 [0,5,6,7,29]) λ_=>.br 24 (λ_=>E0 [0,5,6,7,29]) λ_=>E0 [0,5,6,7,29])
abbrev ae3(s11:Int×Int)(dZ:UInt8)(bS:List UInt8):Fast×WH:=([(0,(rC bS)),(5,(.int .i64 s11.1)),(6,(.int .i64 s11.2)),(7,(.int .i64 (IntKind.i64.wrap (dZ.toNat:Int))))],[])
def adN(s11:Int×Int)(dZ:UInt8)(bS:List UInt8):Int⊕Unit→Ex×Fast×WH:=fun
 |.inl e=>(.ret,[(2,(.int .i64 0)),(3,(.slice none 1 0 0 true)),(4,(.int .i64 e))],[])
 |.inr e=>(.normal,[(0,(rC bS)),(5,(.int .i64 s11.1)),(6,(.int .i64 s11.2)),(7,(.int .i64 (IntKind.i64.wrap (dZ.toNat:Int))))],[])
def BP(s11:Int×Int)(dZ:UInt8)(bS:List UInt8):Option (Int⊕Unit) :=
 (BO s11 dZ bS).bind λ(rV:Bool)=>cond rV ((XK bS s11.2).bind λ(nO:Int)=>some (.inl nO)) (some (.inr ()))
theorem XL(d:Nat){s11:Int×Int}{dZ:UInt8}{bS:List UInt8}{r:Int⊕Unit}(h:BP s11 dZ bS=some r):dx (bF (aQ aT (d+1)) KK 56 KF) 0 (ae3 s11 dZ bS) (adN s11 dZ bS r):=by
 unfold BP at h
 exact bU nB QM h (.bd λrV YL=>Jn [0,5,6,7] [none,none,none,none] [] [] (ahN (d+1) YL)<|.br 29 (λ_=>.bd λnO PZ=>jw (ao9 (d+0) PZ)<|E0 [2,3,4]) λ_=>E0 [0,5,6,7])
abbrev ae4(dZ:UInt8)(s11:Int×Int)(bS:List UInt8)(kJ:Int):Fast×WH:=([(0,(rC bS)),(5,(.int .i64 (IntKind.i64.wrap (s11.1+kJ)))),(6,(.int .i64 s11.2)),(7,(.int .i64 (IntKind.i64.wrap (dZ.toNat:Int))))],[])
def adO(dZ:UInt8)(s11:Int×Int)(bS:List UInt8)(kJ:Int):Unit⊕Unit→Ex×Fast×WH:=fun
 |.inl e=>(.ret,[(2,(.int .i64 0)),(3,(.slice none 1 0 0 true)),(4,(.int .i64 2))],[])
 |.inr e=>(.normal,[(0,(rC bS)),(5,(.int .i64 (IntKind.i64.wrap (s11.1+kJ)))),(6,(.int .i64 s11.2))],[])
def BQ(dZ:UInt8)(s11:Int×Int)(bS:List UInt8)(kJ:Int):Option (Unit⊕Unit) :=
 cond ((IntKind.i64.wrap (dZ.toNat:Int))==0) (cond (decide (s11.2>0)) (some (.inl ())) (some (.inr ()))) (some (.inr ()))
theorem XM(d:Nat){dZ:UInt8}{s11:Int×Int}{bS:List UInt8}{kJ:Int}{r:Unit⊕Unit}(h:BQ dZ s11 bS kJ=some r):dx (bF (aQ aT (d+0)) KK 56 FK) 0 (ae4 dZ s11 bS kJ) (adO dZ s11 bS kJ r):=by
 unfold BQ at h
 exact bU nB MJ h (.br 45 (λ_=>.br 48 (λ_=>E0 [2,3,4]) λ_=>E0 [0,5,6]) λ_=>E0 [0,5,6])
def pG(bS:List UInt8)(s11:Int×Int):List AV×WH:=([(rC bS),(.int .i64 s11.1),(.int .i64 s11.2)],[])
def qC(bS:List UInt8):(Int×Int×List UInt8)⊕Unit→Ex×Fast×WH:=fun
 |.inl e=>(.ret,[(2,(.int .i64 e.1)),(3,(.acc 0 0 1 e.2.2.length true)),(4,(.int .i64 e.2.1))],[(some (.cells (PW e.2.2) false true))])
 |.inr e=>((.exit 0),[],[])
abbrev kF(bS:List UInt8):=eF [0,5,6] (pG bS) (qC bS)
def DX(bS:List UInt8)(s11:Int×Int):Option ((Int×Int)⊕((Int×Int×List UInt8)⊕Unit)) :=
 cond (decide (s11.2<(bS.length:Int))) ((dH bS s11.2).bind λ(dZ:UInt8)=>(BP s11 dZ bS).bind λ(dP:Int⊕Unit)=>cond (jY dP) (some (.inr (.inl (0,(Bu dP),[])))) ((aiL .i64 (Int.tmod (IntKind.i64.wrap (dZ.toNat:Int)) 128) (IntKind.u64.wrap (IntKind.i64.wrap (7*s11.2)))).bind λ(kJ:Int)=>cond (decide ((IntKind.i64.wrap (dZ.toNat:Int))≥128)) (some (.inl ((IntKind.i64.wrap (s11.1+kJ)),(IntKind.i64.wrap (s11.2+1))))) ((BQ dZ s11 bS kJ).bind λ(x18:Unit⊕Unit)=>cond (jY x18) (some (.inr (.inl (0,2,[])))) ((OX bS (IntKind.i64.wrap (s11.2+1)) bS.length).bind λ(x20:List UInt8)=>gd (dR 1 x20.length) (some (.inr (.inl ((IntKind.i64.wrap (s11.1+kJ)),0,x20)))))))) (some (.inr (.inr ())))
def VG(bS:List UInt8)(s11:Int×Int):Option ((Int×Int×List UInt8)⊕Unit):=dG (DX bS) KK s11
theorem ahO(d:Nat){bS:List UInt8}{s11:Int×Int}{r:(Int×Int)⊕((Int×Int×List UInt8)⊕Unit)}(h:DX bS s11=some r):dx (bF (aQ aT (d+1)) KK 56 ahf) 0 (jM [0,5,6] (pG bS s11)) (kF bS r):=by
 unfold DX at h
 exact bU nB amb h (.br 11 (λ_=>.bd λdZ MO=>Ix Yf 16 MO<|.bd λdP Md=>.ite (λadp=>Jn [0,5,6,7] [none,none,none,none] [] [] (kI (il adp) (XL (d+0) Md))<|.zN (.en [2,3,4] [none,(some true),none] [] []) _ (λr=>(.ret=(kF bS r).1∧[(2,(.int .i64 0)),(3,(.acc 0 0 1 0 true)),(4,(.int .i64 (Bu dP)))]=(kF bS r).2.1∧[(some (.cells (PW []) false true))]=(kF bS r).2.2)) (by show _∧_∧_;refine⟨rfl, ?_, ?_⟩<;>first | rfl |(simp only[kF,eF,mW,qC,pG,bB,aD,List.length_replicate,bA,bN,Nat.add_zero,Nat.zero_add];done) | simp[kF,eF,mW,qC,pG,rC])) λadp=>Jn [0,5,6,7] [none,none,none,none] [] [] (kI (Ai adp) (XL (d+0) Md))<|.bd λkJ J4=>.v 39 (.int .i64 kJ)<|.ob (aqv J4:Yh .shl (.int .i64 (Int.tmod (IntKind.i64.wrap (dZ.toNat:Int)) 128)) (.int .u64 (IntKind.u64.wrap (IntKind.i64.wrap (7*s11.2))))=some (.int .i64 kJ))<|.br 42 (λ_=>E0 [0,5,6]) λ_=>.bd λx18 YM=>.ite (λamu=>Jn [0,5,6,7] [none,none,none,none] [] [] (kI (il amu) (XM (d+1) YM))<|.zN (.en [2,3,4] [none,(some true),none] [] []) _ (λr=>(.ret=(kF bS r).1∧[(2,(.int .i64 0)),(3,(.acc 0 0 1 0 true)),(4,(.int .i64 2))]=(kF bS r).2.1∧[(some (.cells (PW []) false true))]=(kF bS r).2.2)) (by show _∧_∧_;refine⟨rfl, ?_, ?_⟩<;>first | rfl |(simp only[kF,eF,mW,qC,pG,bB,aD,List.length_replicate,bA,bN,Nat.add_zero,Nat.zero_add];done) | simp[kF,eF,mW,qC,pG,rC])) λamu=>Jn [0,5,6,7] [none,none,none,none] [] [] (kI (Ai amu) (XM (d+1) YM))<|.bd λx20 q20=>Sl Yf 54 q20<|.gd λq21=>Ap0 Yf 55 q21<|E1 [2,3,4] [none,Tw,none] [] []) λ_=>E0 [])
theorem XO(d:Nat){bS:List UInt8}{s11:Int×Int}{r:(Int×Int×List UInt8)⊕Unit}(h:VG bS s11=some r):dx (fQ (bF (aQ aT (d+1)) KK 56 ahf) [0,5,6] KK) 0 (jM [0,5,6] (pG bS s11)) (qC bS r) :=
 dS (st:=pG bS) (fin:=qC bS) (step:=DX bS) (λe=>by rcases e with e | e<;>(intro h;cases h)) (λs x h=>ahO d h) KK s11 r h
def Td(bS:List UInt8):Option (Int×List UInt8×Int) :=
 (VG bS (0,0)).bind λ(I9:(Int×Int×List UInt8)⊕Unit)=>cond (jY I9) (some ((Bu I9).1,(Bu I9).2.2,(Bu I9).2.1)) (some (0,[],3))
def aan(bS:List UInt8)(r:Int×List UInt8×Int):AV×WH:=((.tuple [(.int .i64 r.1),(rC r.2.1),(.int .i64 r.2.2)]),[])
theorem agl(d:Nat){bS:List UInt8}{r:Int×List UInt8×Int}(h:Td bS=some r):Spec (aQ aT (d+2)) 106 [(rC bS)] [] (aan bS r).1 (aan bS r).2:=by
 unfold Td at h
 exact bK nB aAV h (.bd λI9 q22=>.ite (λamD=>Lp [none,none,none] [] [] (kI (il amD) (XO (d+0) q22))<|Fn Fo [] none) λamD=>Lp [none,none,none] [] [] (kI (Ai amD) (XO (d+0) q22))<|Fn Fo [] none)
def bX(p_r:au):Option (Int×au) :=
 cond (p_r.E != 0) (some (0,p_r)) ((Td p_r.B).bind λ(x1:Int×List UInt8×Int)=>some (x1.1,(⟨x1.2.1,x1.2.2⟩:au)))
def K3(p_r:au)(r:Int×au):AV×WH:=((.int .i64 r.1),[(some (.cells (dL r.2) false false))])
theorem eP(d:Nat){p_r:au}{r:Int×au}(h:bX p_r=some r):Spec (aQ aT (d+3)) 66 [(.ptr (some (0,0)))] [(some (.cells (dL p_r) false false))] (K3 p_r r).1 (K3 p_r r).2:=by
 unfold bX at h
 exact bK nB aCZ h (.br 10 (λ_=>Fn Fo [] none) λ_=>.bd λx1 q1=>Cl [] Fo [] (agl (d+0) q1)<|.st none<|.st none<|Fn Fo [] none)
def jk(p_e:Int)(p_r:au):Option (au) :=
 cond (p_r.E==0) (some (⟨p_r.B,p_e⟩:au)) (some p_r)
def JF(p_e:Int)(p_r:au)(r:au):AV×WH:=((.tuple []),[(some (.cells (dL r) false false))])
theorem zD(d:Nat){p_e:Int}{p_r:au}{r:au}(h:jk p_e p_r=some r):Spec (aQ aT (d+1)) 108 [(.ptr (some (0,0))),(.int .i64 p_e)] [(some (.cells (dL p_r) false false))] (JF p_e p_r r).1 (JF p_e p_r r).2:=by
 unfold jk at h
 exact bK nB aAX h (.br 8 (λ_=>.st none<|Fn Fo [] none) λ_=>Fn Fo [] none)
abbrev Qb(x1:Int×au)(most:Int):Fast×WH:=([(0,(.ptr (some (0,0)))),(1,(.int .i64 most)),(5,(.int .i64 x1.1))],[(some (.cells (dL x1.2) false false))])
def OA(x1:Int×au)(most:Int):au→Ex×Fast×WH:=λe=>(.normal,[(0,(.ptr (some (0,0)))),(5,(.int .i64 x1.1))],[(some (.cells (dL e) false false))])
def vJ(x1:Int×au)(most:Int):Option (au) :=
 cond (decide (x1.1>most)) ((jk 2 x1.2).bind λ(x2:au)=>some x2) (some x1.2)
theorem RZ(d:Nat){x1:Int×au}{most:Int}{r:au}(h:vJ x1 most=some r):dx (bF (aQ aT (d+1)) KK 19 ai6) 1 (Qb x1 most) (OA x1 most r):=by
 unfold vJ at h
 exact bU nB ai7 h (.br 10 (λ_=>.bd λx2 q2=>Cl [] Fo [] (zD (d+0) q2)<|E0 [0,5]) λ_=>E0 [0,5])
def fO(most:Int)(p_r:au):Option (Int×au) :=
 (bX p_r).bind λ(x1:Int×au)=>(vJ x1 most).bind λ(x3:au)=>cond (x3.E != 0) (some (0,x3)) (some (x1.1,x3))
def Hl(most:Int)(p_r:au)(r:Int×au):AV×WH:=((.int .i64 r.1),[(some (.cells (dL r.2) false false))])
theorem sW(d:Nat){most:Int}{p_r:au}{r:Int×au}(h:fO most p_r=some r):Spec (aQ aT (d+4)) 70 [(.ptr (some (0,0))),(.int .i64 most)] [(some (.cells (dL p_r) false false))] (Hl most p_r r).1 (Hl most p_r r).2:=by
 unfold fO at h
 exact bK nB aC3 h (.bd λx1 q1=>Cl [] Fo [] (eP (d+0) q1)<|.bd λx3 q3=>Jn [0,1,5] [none,none,none] [] [] (RZ (d+2) q3)<|.br 17 (λ_=>Fn Fo [] none) λ_=>Fn Fo [] none)
def uE(p_r:au):Option (Bool×au) :=
 (fO 1 p_r).bind λ(x1:Int×au)=>some ((x1.1==1),x1.2)
def JG(p_r:au)(r:Bool×au):AV×WH:=((.bool r.1),[(some (.cells (dL r.2) false false))])
theorem NA(d:Nat){p_r:au}{r:Bool×au}(h:uE p_r=some r):Spec (aQ aT (d+5)) 67 [(.ptr (some (0,0)))] [(some (.cells (dL p_r) false false))] (JG p_r r).1 (JG p_r r).2:=by
 unfold uE at h
 exact bK nB aC0 h (.bd λx1 q1=>Cl [] Fo [] (sW (d+0) q1)<|Fn Fo [] none)
def Gb(bS:List UInt8):Option (List UInt8×List UInt8×Int) :=
 (Td bS).bind λ(x1:Int×List UInt8×Int)=>cond (x1.2.2 != 0) (some (([]:List UInt8),[],x1.2.2)) (cond (decide (x1.1>(x1.2.1.length:Int))) (some (([]:List UInt8),[],3)) ((OX x1.2.1 x1.1 x1.2.1.length).bind λ(x2:List UInt8)=>gd (dR 1 x2.length) ((OX x1.2.1 0 x1.1).bind λ(x4:List UInt8)=>some (x4,x2,0))))
def Px(bS:List UInt8)(r:List UInt8×List UInt8×Int):AV×WH:=((.tuple [(.str r.1),(rC r.2.1),(.int .i64 r.2.2)]),[])
theorem ae5(d:Nat){bS:List UInt8}{r:List UInt8×List UInt8×Int}(h:Gb bS=some r):Spec (aQ aT (d+3)) 133 [(rC bS)] [] (Px bS r).1 (Px bS r).2:=by
 unfold Gb at h
 exact bK nB aBi h (.bd λx1 q1=>Cl [] Fo [] (agl (d+0) q1)<|.br 15 (λ_=>Fn Fo [] none) λ_=>.br 20 (λ_=>Fn Fo [] none) λ_=>.bd λx2 q2=>Sl Yf 28 q2<|.gd λq3=>Ap0 Yf 29 q3<|.bd λx4 q4=>Si Yf 23 q4<|.v 24 (.str x4)<|.ob (by rw[show PW x4=(x4).map MB from rfl,QB];rfl:(mU (PW x4)).map AV.str=some (.str x4))<|Fn Fo [] none)
def gJ(p_r:au):Option (List UInt8×au) :=
 cond (p_r.E != 0) (some (([]:List UInt8),p_r)) ((Gb p_r.B).bind λ(x1:List UInt8×List UInt8×Int)=>some (x1.1,(⟨x1.2.1,x1.2.2⟩:au)))
def JH(p_r:au)(r:List UInt8×au):AV×WH:=((.str r.1),[(some (.cells (dL r.2) false false))])
theorem pW(d:Nat){p_r:au}{r:List UInt8×au}(h:gJ p_r=some r):Spec (aQ aT (d+4)) 107 [(.ptr (some (0,0)))] [(some (.cells (dL p_r) false false))] (JH p_r r).1 (JH p_r r).2:=by
 unfold gJ at h
 exact bK nB aAW h (.br 10 (λ_=>Fn Fo [] none) λ_=>.bd λx1 q1=>Cl [] Fo [] (ae5 (d+0) q1)<|.st none<|.st none<|Fn Fo [] none)
def wz(p_r:au):Option (bJ×au) :=
 (bX p_r).bind λ(x1:Int×au)=>(bX x1.2).bind λ(x2:Int×au)=>(bX x2.2).bind λ(x3:Int×au)=>(gJ x3.2).bind λ(x4:List UInt8×au)=>(gJ x4.2).bind λ(x5:List UInt8×au)=>(gJ x5.2).bind λ(x6:List UInt8×au)=>(rW (⟨x1.1,x2.1,(⟨x3.1,x4.1,x5.1,x6.1⟩:bZ)⟩:bJ)).bind λ(x7:Bool)=>cond (!x7) ((jk 2 x6.2).bind λ(x8:au)=>some ((⟨x1.1,x2.1,(⟨x3.1,x4.1,x5.1,x6.1⟩:bZ)⟩:bJ),x8)) (some ((⟨x1.1,x2.1,(⟨x3.1,x4.1,x5.1,x6.1⟩:bZ)⟩:bJ),x6.2))
def K4(p_r:au)(r:bJ×au):AV×WH:=((.agg (wh r.1)),[(some (.cells (dL r.2) false false))])
theorem abf(d:Nat){p_r:au}{r:bJ×au}(h:wz p_r=some r):Spec (aQ aT (d+5)) 68 [(.ptr (some (0,0)))] [(some (.cells (dL p_r) false false))] (K4 p_r r).1 (K4 p_r r).2:=by
 unfold wz at h
 exact bK nB aC1 h (.bd λx1 q1=>Cl [] Fo [] (eP (d+1) q1)<|.bd λx2 q2=>Cl [] Fo [] (eP (d+1) q2)<|.st none<|.bd λx3 q3=>Cl [] Fo [] (eP (d+1) q3)<|.st none<|.bd λx4 q4=>Cl [] Fo [] (pW (d+0) q4)<|.st none<|.bd λx5 q5=>Cl [] Fo [] (pW (d+0) q5)<|.st none<|.bd λx6 q6=>Cl [] Fo [] (pW (d+0) q6)<|.st none<|.bd λx7 q7=>jw (FM (d+1) q7)<|.br 27 (λ_=>.bd λx8 q8=>Cl [] Fo [] (zD (d+3) q8)<|.st none<|Fn Fo [] none) λ_=>.st none<|Fn Fo [] none)
def kZ(p_r:au):Option (aJ×au) :=
 (bX p_r).bind λ(x1:Int×au)=>(gJ x1.2).bind λ(x2:List UInt8×au)=>(vk (⟨x1.1,x2.1⟩:aJ)).bind λ(x3:Bool)=>cond (!x3) ((jk 2 x2.2).bind λ(x4:au)=>some ((⟨x1.1,x2.1⟩:aJ),x4)) (some ((⟨x1.1,x2.1⟩:aJ),x2.2))
def Gc(p_r:au)(r:aJ×au):AV×WH:=((.agg (fM r.1)),[(some (.cells (dL r.2) false false))])
theorem JI(d:Nat){p_r:au}{r:aJ×au}(h:kZ p_r=some r):Spec (aQ aT (d+5)) 69 [(.ptr (some (0,0)))] [(some (.cells (dL p_r) false false))] (Gc p_r r).1 (Gc p_r r).2:=by
 unfold kZ at h
 exact bK nB aC2 h (.bd λx1 q1=>Cl [] Fo [] (eP (d+1) q1)<|.bd λx2 q2=>Cl [] Fo [] (pW (d+0) q2)<|.st none<|.bd λx3 q3=>jw (Je (d+3) q3)<|.br 11 (λ_=>.bd λx4 q4=>Cl [] Fo [] (zD (d+3) q4)<|.st none<|Fn Fo [] none) λ_=>.st none<|Fn Fo [] none)
abbrev Qc(tV:Int×au×List aF)(x1:Int×au)(x2:Int×au):Fast×WH:=([(0,(.ptr (some (0,0)))),(2,(.ptr (some (1,0)))),(3,(.ptr (some (2,0)))),(4,(.int .i64 tV.1))],[(some (.cells (dL tV.2.1) false false)),(some (.cells [(.int .i64 0),(.int .i64 0),(.acc 3 0 2 0 true),(.acc 4 0 4 0 true)] false false)),(some (.cells [(.int .i64 x1.1),(.int .i64 x2.1),(.acc 5 0 2 tV.2.2.length true),(.acc 6 0 4 0 true)] false false)),(some (.cells (aO []) false true)),(some (.cells (aW []) false true)),(some (.cells (aO tV.2.2) false true)),(some (.cells (aW []) false true))])
def OB(tV:Int×au×List aF)(x1:Int×au)(x2:Int×au):Unit⊕Unit→Ex×Fast×WH:=fun
 |.inl e=>(.normal,[(0,(.ptr (some (0,0)))),(2,(.ptr (some (1,0)))),(3,(.ptr (some (2,0)))),(4,(.int .i64 tV.1))],[(some (.cells (dL tV.2.1) false false)),(some (.cells [(.int .i64 0),(.int .i64 0),(.acc 3 0 2 0 true),(.acc 4 0 4 0 true)] false false)),(some (.cells [(.int .i64 x1.1),(.int .i64 x2.1),(.acc 5 0 2 tV.2.2.length true),(.acc 6 0 4 0 true)] false false)),(some (.cells (aO []) false true)),(some (.cells (aW []) false true)),(some (.cells (aO tV.2.2) false true)),(some (.cells (aW []) false true))])
 |.inr e=>((.exit 0),[(0,(.ptr (some (0,0)))),(2,(.ptr (some (1,0)))),(3,(.ptr (some (2,0))))],[(some (.cells (dL tV.2.1) false false)),(some (.cells [(.int .i64 0),(.int .i64 0),(.acc 3 0 2 0 true),(.acc 4 0 4 0 true)] false false)),(some (.cells [(.int .i64 x1.1),(.int .i64 x2.1),(.acc 5 0 2 tV.2.2.length true),(.acc 6 0 4 0 true)] false false)),(some (.cells (aO []) false true)),(some (.cells (aW []) false true)),(some (.cells (aO tV.2.2) false true)),(some (.cells (aW []) false true))])
def qD(tV:Int×au×List aF)(x1:Int×au)(x2:Int×au):Option (Unit⊕Unit) :=
 cond (decide (tV.1>0)) (cond (tV.2.1.E==0) (some (.inl ())) (some (.inr ()))) (some (.inr ()))
theorem Gd(d:Nat){tV:Int×au×List aF}{x1:Int×au}{x2:Int×au}{r:Unit⊕Unit}(h:qD tV x1 x2=some r):dx (bF (aQ aT (d+0)) KK 65 WK) 1 (Qc tV x1 x2) (OB tV x1 x2 r):=by
 unfold qD at h
 exact bU nB aaC h (.br 15 (λ_=>.br 21 (λ_=>E0 [0,2,3,4]) λ_=>E0 [0,2,3]) λ_=>E0 [0,2,3])
def qX(x1:Int×au)(x2:Int×au)(tV:Int×au×List aF):List AV×WH:=([(.ptr (some (0,0))),(.ptr (some (1,0))),(.ptr (some (2,0))),(.int .i64 tV.1)],[(some (.cells (dL tV.2.1) false false)),(some (.cells [(.int .i64 0),(.int .i64 0),(.acc 3 0 2 0 true),(.acc 4 0 4 0 true)] false false)),(some (.cells [(.int .i64 x1.1),(.int .i64 x2.1),(.acc 5 0 2 tV.2.2.length true),(.acc 6 0 4 0 true)] false false)),(some (.cells (aO []) false true)),(some (.cells (aW []) false true)),(some (.cells (aO tV.2.2) false true)),(some (.cells (aW []) false true))])
def vK(x1:Int×au)(x2:Int×au):(au×List aF)→Ex×Fast×WH:=λe=>((.exit 0),[(0,(.ptr (some (0,0)))),(2,(.ptr (some (1,0)))),(3,(.ptr (some (2,0))))],[(some (.cells (dL e.1) false false)),(some (.cells [(.int .i64 0),(.int .i64 0),(.acc 3 0 2 0 true),(.acc 4 0 4 0 true)] false false)),(some (.cells [(.int .i64 x1.1),(.int .i64 x2.1),(.acc 5 0 2 e.2.length true),(.acc 6 0 4 0 true)] false false)),(some (.cells (aO []) false true)),(some (.cells (aW []) false true)),(some (.cells (aO e.2) false true)),(some (.cells (aW []) false true))])
abbrev Qd(x1:Int×au)(x2:Int×au):=eF [0,2,3,4] (qX x1 x2) (vK x1 x2)
def iF(x1:Int×au)(x2:Int×au)(tV:Int×au×List aF):Option ((Int×au×List aF)⊕((au×List aF))) :=
 (qD tV x1 x2).bind λ(dP:Unit⊕Unit)=>cond (jY dP) ((gJ tV.2.1).bind λ(kJ:List UInt8×au)=>(gJ kJ.2).bind λ(x18:List UInt8×au)=>gd (dR 32 (tV.2.2++[(⟨kJ.1,x18.1⟩:aF)]).length) (some (.inl ((IntKind.i64.wrap (tV.1-1)),x18.2,(tV.2.2++[(⟨kJ.1,x18.1⟩:aF)]))))) (some (.inr (tV.2.1,tV.2.2)))
def qE(x1:Int×au)(x2:Int×au)(tV:Int×au×List aF):Option ((au×List aF)):=dG (iF x1 x2) KK tV
theorem R3(d:Nat){x1:Int×au}{x2:Int×au}{tV:Int×au×List aF}{r:(Int×au×List aF)⊕((au×List aF))}(h:iF x1 x2 tV=some r):dx (bF (aQ aT (d+4)) KK 65 alU) 1 (jM [0,2,3,4] (qX x1 x2 tV)) (Qd x1 x2 r):=by
 unfold iF at h
 exact bU nB aoT h (.bd λdP Md=>.ite (λadp=>Jn [0,2,3,4] [none,none,none,none] [] [] (kI (il adp) (Gd (d+4) Md))<|.bd λkJ J4=>Cl [] Fo [] (pW (d+0) J4)<|.bd λx18 YM=>Cl [] Fo [] (pW (d+0) YM)<|.gd λUq=>Ap bn 32 Uq<|.st none<|E0 [0,2,3,4]) λadp=>Jn [0,2,3,4] [none,none,none,none] [] [] (kI (Ai adp) (Gd (d+4) Md))<|E0 [0,2,3])
theorem R4(d:Nat){x1:Int×au}{x2:Int×au}{tV:Int×au×List aF}{r:(au×List aF)}(h:qE x1 x2 tV=some r):dx (fQ (bF (aQ aT (d+4)) KK 65 alU) [0,2,3,4] KK) 1 (jM [0,2,3,4] (qX x1 x2 tV)) (vK x1 x2 r) :=
 dS (st:=qX x1 x2) (fin:=vK x1 x2) (step:=iF x1 x2) (λe=>by(intro h;cases h)) (λs x h=>R3 d h) KK tV r h
abbrev Qe(NC:Int×au×List aB)(x1:Int×au)(x2:Int×au)(x20:(au×List aF)):Fast×WH:=([(0,(.ptr (some (0,0)))),(2,(.ptr (some (1,0)))),(3,(.ptr (some (2,0)))),(5,(.int .i64 NC.1))],[(some (.cells (dL NC.2.1) false false)),(some (.cells [(.int .i64 0),(.int .i64 0),(.acc 3 0 2 0 true),(.acc 4 0 4 0 true)] false false)),(some (.cells [(.int .i64 x1.1),(.int .i64 x2.1),(.acc 5 0 2 x20.2.length true),(.acc 6 0 4 NC.2.2.length true)] false false)),(some (.cells (aO []) false true)),(some (.cells (aW []) false true)),(some (.cells (aO x20.2) false true)),(some (.cells (aW NC.2.2) false true))])
def OC(NC:Int×au×List aB)(x1:Int×au)(x2:Int×au)(x20:(au×List aF)):Unit⊕Unit→Ex×Fast×WH:=fun
 |.inl e=>(.normal,[(0,(.ptr (some (0,0)))),(2,(.ptr (some (1,0)))),(3,(.ptr (some (2,0)))),(5,(.int .i64 NC.1))],[(some (.cells (dL NC.2.1) false false)),(some (.cells [(.int .i64 0),(.int .i64 0),(.acc 3 0 2 0 true),(.acc 4 0 4 0 true)] false false)),(some (.cells [(.int .i64 x1.1),(.int .i64 x2.1),(.acc 5 0 2 x20.2.length true),(.acc 6 0 4 NC.2.2.length true)] false false)),(some (.cells (aO []) false true)),(some (.cells (aW []) false true)),(some (.cells (aO x20.2) false true)),(some (.cells (aW NC.2.2) false true))])
 |.inr e=>((.exit 2),[(0,(.ptr (some (0,0)))),(2,(.ptr (some (1,0)))),(3,(.ptr (some (2,0))))],[(some (.cells (dL NC.2.1) false false)),(some (.cells [(.int .i64 0),(.int .i64 0),(.acc 3 0 2 0 true),(.acc 4 0 4 0 true)] false false)),(some (.cells [(.int .i64 x1.1),(.int .i64 x2.1),(.acc 5 0 2 x20.2.length true),(.acc 6 0 4 NC.2.2.length true)] false false)),(some (.cells (aO []) false true)),(some (.cells (aW []) false true)),(some (.cells (aO x20.2) false true)),(some (.cells (aW NC.2.2) false true))])
def qF(NC:Int×au×List aB)(x1:Int×au)(x2:Int×au)(x20:(au×List aF)):Option (Unit⊕Unit) :=
 cond (decide (NC.1>0)) (cond (NC.2.1.E==0) (some (.inl ())) (some (.inr ()))) (some (.inr ()))
theorem Gf(d:Nat){NC:Int×au×List aB}{x1:Int×au}{x2:Int×au}{x20:(au×List aF)}{r:Unit⊕Unit}(h:qF NC x1 x2 x20=some r):dx (bF (aQ aT (d+0)) KK 65 Uj) 1 (Qe NC x1 x2 x20) (OC NC x1 x2 x20 r):=by
 unfold qF at h
 exact bU nB YH h (.br 38 (λ_=>.br 44 (λ_=>E0 [0,2,3,5]) λ_=>E0 [0,2,3]) λ_=>E0 [0,2,3])
def qY(x1:Int×au)(x2:Int×au)(x20:(au×List aF))(NC:Int×au×List aB):List AV×WH:=([(.ptr (some (0,0))),(.ptr (some (1,0))),(.ptr (some (2,0))),(.int .i64 NC.1)],[(some (.cells (dL NC.2.1) false false)),(some (.cells [(.int .i64 0),(.int .i64 0),(.acc 3 0 2 0 true),(.acc 4 0 4 0 true)] false false)),(some (.cells [(.int .i64 x1.1),(.int .i64 x2.1),(.acc 5 0 2 x20.2.length true),(.acc 6 0 4 NC.2.2.length true)] false false)),(some (.cells (aO []) false true)),(some (.cells (aW []) false true)),(some (.cells (aO x20.2) false true)),(some (.cells (aW NC.2.2) false true))])
def vL(x1:Int×au)(x2:Int×au)(x20:(au×List aF)):(au×List aB)→Ex×Fast×WH:=λe=>((.exit 2),[(0,(.ptr (some (0,0)))),(2,(.ptr (some (1,0)))),(3,(.ptr (some (2,0))))],[(some (.cells (dL e.1) false false)),(some (.cells [(.int .i64 0),(.int .i64 0),(.acc 3 0 2 0 true),(.acc 4 0 4 0 true)] false false)),(some (.cells [(.int .i64 x1.1),(.int .i64 x2.1),(.acc 5 0 2 x20.2.length true),(.acc 6 0 4 e.2.length true)] false false)),(some (.cells (aO []) false true)),(some (.cells (aW []) false true)),(some (.cells (aO x20.2) false true)),(some (.cells (aW e.2) false true))])
abbrev Qf(x1:Int×au)(x2:Int×au)(x20:(au×List aF)):=eF [0,2,3,5] (qY x1 x2 x20) (vL x1 x2 x20)
def iG(x1:Int×au)(x2:Int×au)(x20:(au×List aF))(NC:Int×au×List aB):Option ((Int×au×List aB)⊕((au×List aB))) :=
 (qF NC x1 x2 x20).bind λ(x29:Unit⊕Unit)=>cond (jY x29) ((bX NC.2.1).bind λ(x31:Int×au)=>(bX x31.2).bind λ(x32:Int×au)=>(kZ x32.2).bind λ(x33:aJ×au)=>gd (dR 40 (NC.2.2++[(⟨x31.1,x32.1,x33.1⟩:aB)]).length) (some (.inl ((IntKind.i64.wrap (NC.1-1)),x33.2,(NC.2.2++[(⟨x31.1,x32.1,x33.1⟩:aB)]))))) (some (.inr (NC.2.1,NC.2.2)))
def qG(x1:Int×au)(x2:Int×au)(x20:(au×List aF))(NC:Int×au×List aB):Option ((au×List aB)):=dG (iG x1 x2 x20) KK NC
theorem R5(d:Nat){x1:Int×au}{x2:Int×au}{x20:(au×List aF)}{NC:Int×au×List aB}{r:(Int×au×List aB)⊕((au×List aB))}(h:iG x1 x2 x20 NC=some r):dx (bF (aQ aT (d+5)) KK 65 alV) 1 (jM [0,2,3,5] (qY x1 x2 x20 NC)) (Qf x1 x2 x20 r):=by
 unfold iG at h
 exact bU nB aoU h (.bd λx29 q29=>.ite (λamv=>Jn [0,2,3,5] [none,none,none,none] [] [] (kI (il amv) (Gf (d+5) q29))<|.bd λx31 q31=>Cl [] Fo [] (eP (d+2) q31)<|.bd λx32 q32=>Cl [] Fo [] (eP (d+2) q32)<|.bd λx33 q33=>Cl [] Fo [] (JI (d+0) q33)<|.gd λq34=>Ap dQ 57 q34<|.st none<|E0 [0,2,3,5]) λamv=>Jn [0,2,3,5] [none,none,none,none] [] [] (kI (Ai amv) (Gf (d+5) q29))<|E0 [0,2,3])
theorem R6(d:Nat){x1:Int×au}{x2:Int×au}{x20:(au×List aF)}{NC:Int×au×List aB}{r:(au×List aB)}(h:qG x1 x2 x20 NC=some r):dx (fQ (bF (aQ aT (d+5)) KK 65 alV) [0,2,3,5] KK) 1 (jM [0,2,3,5] (qY x1 x2 x20 NC)) (vL x1 x2 x20 r) :=
 dS (st:=qY x1 x2 x20) (fin:=vL x1 x2 x20) (step:=iG x1 x2 x20) (λe=>by(intro h;cases h)) (λs x h=>R5 d h) KK NC r h
def r9(p_r:au):Option (aM×au) :=
 (bX p_r).bind λ(x1:Int×au)=>(bX x1.2).bind λ(x2:Int×au)=>(fO 8 x2.2).bind λ(x3:Int×au)=>(qE x1 x2 (x3.1,x3.2,[])).bind λ(x20:(au×List aF))=>(fO 4 x20.1).bind λ(x21:Int×au)=>(qG x1 x2 x20 (x21.1,x21.2,[])).bind λ(x35:(au×List aB))=>(uM (⟨x1.1,x2.1,x20.2,x35.2⟩:aM)).bind λ(Eh:Bool)=>cond (!Eh) ((jk 2 x35.1).bind λ(Xb:au)=>some ((⟨x1.1,x2.1,x20.2,x35.2⟩:aM),Xb)) (some ((⟨x1.1,x2.1,x20.2,x35.2⟩:aM),x35.1))
def Ho(p_r:au)(r:aM×au):AV×WH:=((.agg (dB r.1)),[(some (.cells (dL r.2) false false))])
theorem XP(d:Nat){p_r:au}{r:aM×au}(h:r9 p_r=some r):Spec (aQ aT (d+7)) 71 [(.ptr (some (0,0)))] [(some (.cells (dL p_r) false false))] (Ho p_r r).1 (Ho p_r r).2:=by
 unfold r9 at h
 exact bK nB aC4 h (.z 2 [.undef,.undef,.slice none 2 0 0 true,.slice none 4 0 0 true]<|.bd λx1 q1=>Cl [] Fo [] (eP (d+3) q1)<|.bd λx2 q2=>Cl [] Fo [] (eP (d+3) q2)<|.z 10 [.agg [.undef,.undef,.slice none 2 0 0 true,.slice none 4 0 0 true]]<|.z 3 [.undef,.undef,.slice none 2 0 0 true,.slice none 4 0 0 true]<|.st none<|.bd λx3 q3=>Cl [] Fo [] (sW (d+2) q3)<|.bd λx20 q20=>Lp [none,none,none,none] [Tw,Tw,Tw,Tw,Tw,Tw,Tw] [] (R4 (d+2) q20)<|.bd λx21 q21=>Cl [] Fo [] (sW (d+2) q21)<|.bd λx35 q35=>Lp [none,none,none,none] [] [] (R6 (d+1) q35)<|.bd λEh q36=>Cb [.agg [.undef,.undef,.slice none 2 0 0 true,.slice none 4 0 0 true]] (LU (d+0) q36)<|.br 61 (λ_=>.bd λXb q37=>Cl [] Fo [] (zD (d+5) q37)<|.st none<|Fn Fo [.agg [.undef,.undef,.slice none 2 0 0 true,.slice none 4 0 0 true]] none) λ_=>.st none<|Fn Fo [.agg [.undef,.undef,.slice none 2 0 0 true,.slice none 4 0 0 true]] none)
abbrev Zl(ND:Int×au×List Int)(x1:Int×au)(x2:Int×au)(x3:Int×au)(x4:Int×au)(x5:Int×au)(x6:Int×au)(x7:Int×au)(x8:Int×au)(x9:Bool×au)(x10:bJ×au)(dV:aJ×au):Fast×WH:=([(2,(.ptr (some (0,0)))),(4,(.ptr (some (1,0)))),(5,(.ptr (some (2,0)))),(6,(.int .i64 ND.1))],[(some (.cells [(.int .i64 0),(.int .i64 0),(.int .i64 0),(.int .i64 0),(.int .i64 0),(.int .i64 0),(.int .i64 0),(.int .i64 0),(.bool false),(.int .i64 0),(.int .i64 0),(.int .i64 0),(.str ([]:List UInt8)),(.str ([]:List UInt8)),(.str ([]:List UInt8)),(.int .i64 0),(.str ([]:List UInt8)),(.acc 3 0 1 0 true),(.acc 4 0 5 0 true),(.int .i64 0),(.int .i64 0),(.acc 5 0 2 0 true),(.acc 6 0 4 0 true)] false false)),(some (.cells (dL ND.2.1) false false)),(some (.cells [(.int .i64 x1.1),(.int .i64 x2.1),(.int .i64 x3.1),(.int .i64 x4.1),(.int .i64 x5.1),(.int .i64 x6.1),(.int .i64 x7.1),(.int .i64 x8.1),(.bool x9.1),(.int .i64 x10.1.Client),(.int .i64 x10.1.Seq),(.int .i64 x10.1.Op.Kind),(.str x10.1.Op.Key),(.str x10.1.Op.Value),(.str x10.1.Op.Old),(.int .i64 dV.1.Why),(.str dV.1.Value),(.acc 7 0 1 ND.2.2.length true),(.acc 8 0 5 0 true),(.int .i64 0),(.int .i64 0),(.acc 9 0 2 0 true),(.acc 10 0 4 0 true)] false false)),(some (.cells (uY []) false true)),(some (.cells (bP []) false true)),(some (.cells (aO []) false true)),(some (.cells (aW []) false true)),(some (.cells (uY ND.2.2) false true)),(some (.cells (bP []) false true)),(some (.cells (aO []) false true)),(some (.cells (aW []) false true))])
def XQ(ND:Int×au×List Int)(x1:Int×au)(x2:Int×au)(x3:Int×au)(x4:Int×au)(x5:Int×au)(x6:Int×au)(x7:Int×au)(x8:Int×au)(x9:Bool×au)(x10:bJ×au)(dV:aJ×au):Unit⊕Unit→Ex×Fast×WH:=fun
 |.inl e=>(.normal,[(2,(.ptr (some (0,0)))),(4,(.ptr (some (1,0)))),(5,(.ptr (some (2,0)))),(6,(.int .i64 ND.1))],[(some (.cells [(.int .i64 0),(.int .i64 0),(.int .i64 0),(.int .i64 0),(.int .i64 0),(.int .i64 0),(.int .i64 0),(.int .i64 0),(.bool false),(.int .i64 0),(.int .i64 0),(.int .i64 0),(.str ([]:List UInt8)),(.str ([]:List UInt8)),(.str ([]:List UInt8)),(.int .i64 0),(.str ([]:List UInt8)),(.acc 3 0 1 0 true),(.acc 4 0 5 0 true),(.int .i64 0),(.int .i64 0),(.acc 5 0 2 0 true),(.acc 6 0 4 0 true)] false false)),(some (.cells (dL ND.2.1) false false)),(some (.cells [(.int .i64 x1.1),(.int .i64 x2.1),(.int .i64 x3.1),(.int .i64 x4.1),(.int .i64 x5.1),(.int .i64 x6.1),(.int .i64 x7.1),(.int .i64 x8.1),(.bool x9.1),(.int .i64 x10.1.Client),(.int .i64 x10.1.Seq),(.int .i64 x10.1.Op.Kind),(.str x10.1.Op.Key),(.str x10.1.Op.Value),(.str x10.1.Op.Old),(.int .i64 dV.1.Why),(.str dV.1.Value),(.acc 7 0 1 ND.2.2.length true),(.acc 8 0 5 0 true),(.int .i64 0),(.int .i64 0),(.acc 9 0 2 0 true),(.acc 10 0 4 0 true)] false false)),(some (.cells (uY []) false true)),(some (.cells (bP []) false true)),(some (.cells (aO []) false true)),(some (.cells (aW []) false true)),(some (.cells (uY ND.2.2) false true)),(some (.cells (bP []) false true)),(some (.cells (aO []) false true)),(some (.cells (aW []) false true))])
 |.inr e=>((.exit 0),[(2,(.ptr (some (0,0)))),(4,(.ptr (some (1,0)))),(5,(.ptr (some (2,0))))],[(some (.cells [(.int .i64 0),(.int .i64 0),(.int .i64 0),(.int .i64 0),(.int .i64 0),(.int .i64 0),(.int .i64 0),(.int .i64 0),(.bool false),(.int .i64 0),(.int .i64 0),(.int .i64 0),(.str ([]:List UInt8)),(.str ([]:List UInt8)),(.str ([]:List UInt8)),(.int .i64 0),(.str ([]:List UInt8)),(.acc 3 0 1 0 true),(.acc 4 0 5 0 true),(.int .i64 0),(.int .i64 0),(.acc 5 0 2 0 true),(.acc 6 0 4 0 true)] false false)),(some (.cells (dL ND.2.1) false false)),(some (.cells [(.int .i64 x1.1),(.int .i64 x2.1),(.int .i64 x3.1),(.int .i64 x4.1),(.int .i64 x5.1),(.int .i64 x6.1),(.int .i64 x7.1),(.int .i64 x8.1),(.bool x9.1),(.int .i64 x10.1.Client),(.int .i64 x10.1.Seq),(.int .i64 x10.1.Op.Kind),(.str x10.1.Op.Key),(.str x10.1.Op.Value),(.str x10.1.Op.Old),(.int .i64 dV.1.Why),(.str dV.1.Value),(.acc 7 0 1 ND.2.2.length true),(.acc 8 0 5 0 true),(.int .i64 0),(.int .i64 0),(.acc 9 0 2 0 true),(.acc 10 0 4 0 true)] false false)),(some (.cells (uY []) false true)),(some (.cells (bP []) false true)),(some (.cells (aO []) false true)),(some (.cells (aW []) false true)),(some (.cells (uY ND.2.2) false true)),(some (.cells (bP []) false true)),(some (.cells (aO []) false true)),(some (.cells (aW []) false true))])
def AL(ND:Int×au×List Int)(x1:Int×au)(x2:Int×au)(x3:Int×au)(x4:Int×au)(x5:Int×au)(x6:Int×au)(x7:Int×au)(x8:Int×au)(x9:Bool×au)(x10:bJ×au)(dV:aJ×au):Option (Unit⊕Unit) :=
 cond (decide (ND.1>0)) (cond (ND.2.1.E==0) (some (.inl ())) (some (.inr ()))) (some (.inr ()))
theorem Py(d:Nat){ND:Int×au×List Int}{x1:Int×au}{x2:Int×au}{x3:Int×au}{x4:Int×au}{x5:Int×au}{x6:Int×au}{x7:Int×au}{x8:Int×au}{x9:Bool×au}{x10:bJ×au}{dV:aJ×au}{r:Unit⊕Unit}(h:AL ND x1 x2 x3 x4 x5 x6 x7 x8 x9 x10 dV=some r):dx (bF (aQ aT (d+0)) KK 120 OY) 0 (Zl ND x1 x2 x3 x4 x5 x6 x7 x8 x9 x10 dV) (XQ ND x1 x2 x3 x4 x5 x6 x7 x8 x9 x10 dV r):=by
 unfold AL at h
 exact bU nB U9 h (.br 40 (λ_=>.br 46 (λ_=>E0 [2,4,5,6]) λ_=>E0 [2,4,5]) λ_=>E0 [2,4,5])
def zF(x1:Int×au)(x2:Int×au)(x3:Int×au)(x4:Int×au)(x5:Int×au)(x6:Int×au)(x7:Int×au)(x8:Int×au)(x9:Bool×au)(x10:bJ×au)(dV:aJ×au)(ND:Int×au×List Int):List AV×WH:=([(.ptr (some (0,0))),(.ptr (some (1,0))),(.ptr (some (2,0))),(.int .i64 ND.1)],[(some (.cells [(.int .i64 0),(.int .i64 0),(.int .i64 0),(.int .i64 0),(.int .i64 0),(.int .i64 0),(.int .i64 0),(.int .i64 0),(.bool false),(.int .i64 0),(.int .i64 0),(.int .i64 0),(.str ([]:List UInt8)),(.str ([]:List UInt8)),(.str ([]:List UInt8)),(.int .i64 0),(.str ([]:List UInt8)),(.acc 3 0 1 0 true),(.acc 4 0 5 0 true),(.int .i64 0),(.int .i64 0),(.acc 5 0 2 0 true),(.acc 6 0 4 0 true)] false false)),(some (.cells (dL ND.2.1) false false)),(some (.cells [(.int .i64 x1.1),(.int .i64 x2.1),(.int .i64 x3.1),(.int .i64 x4.1),(.int .i64 x5.1),(.int .i64 x6.1),(.int .i64 x7.1),(.int .i64 x8.1),(.bool x9.1),(.int .i64 x10.1.Client),(.int .i64 x10.1.Seq),(.int .i64 x10.1.Op.Kind),(.str x10.1.Op.Key),(.str x10.1.Op.Value),(.str x10.1.Op.Old),(.int .i64 dV.1.Why),(.str dV.1.Value),(.acc 7 0 1 ND.2.2.length true),(.acc 8 0 5 0 true),(.int .i64 0),(.int .i64 0),(.acc 9 0 2 0 true),(.acc 10 0 4 0 true)] false false)),(some (.cells (uY []) false true)),(some (.cells (bP []) false true)),(some (.cells (aO []) false true)),(some (.cells (aW []) false true)),(some (.cells (uY ND.2.2) false true)),(some (.cells (bP []) false true)),(some (.cells (aO []) false true)),(some (.cells (aW []) false true))])
def DY(x1:Int×au)(x2:Int×au)(x3:Int×au)(x4:Int×au)(x5:Int×au)(x6:Int×au)(x7:Int×au)(x8:Int×au)(x9:Bool×au)(x10:bJ×au)(dV:aJ×au):(au×List Int)→Ex×Fast×WH:=λe=>((.exit 0),[(2,(.ptr (some (0,0)))),(4,(.ptr (some (1,0)))),(5,(.ptr (some (2,0))))],[(some (.cells [(.int .i64 0),(.int .i64 0),(.int .i64 0),(.int .i64 0),(.int .i64 0),(.int .i64 0),(.int .i64 0),(.int .i64 0),(.bool false),(.int .i64 0),(.int .i64 0),(.int .i64 0),(.str ([]:List UInt8)),(.str ([]:List UInt8)),(.str ([]:List UInt8)),(.int .i64 0),(.str ([]:List UInt8)),(.acc 3 0 1 0 true),(.acc 4 0 5 0 true),(.int .i64 0),(.int .i64 0),(.acc 5 0 2 0 true),(.acc 6 0 4 0 true)] false false)),(some (.cells (dL e.1) false false)),(some (.cells [(.int .i64 x1.1),(.int .i64 x2.1),(.int .i64 x3.1),(.int .i64 x4.1),(.int .i64 x5.1),(.int .i64 x6.1),(.int .i64 x7.1),(.int .i64 x8.1),(.bool x9.1),(.int .i64 x10.1.Client),(.int .i64 x10.1.Seq),(.int .i64 x10.1.Op.Kind),(.str x10.1.Op.Key),(.str x10.1.Op.Value),(.str x10.1.Op.Old),(.int .i64 dV.1.Why),(.str dV.1.Value),(.acc 7 0 1 e.2.length true),(.acc 8 0 5 0 true),(.int .i64 0),(.int .i64 0),(.acc 9 0 2 0 true),(.acc 10 0 4 0 true)] false false)),(some (.cells (uY []) false true)),(some (.cells (bP []) false true)),(some (.cells (aO []) false true)),(some (.cells (aW []) false true)),(some (.cells (uY e.2) false true)),(some (.cells (bP []) false true)),(some (.cells (aO []) false true)),(some (.cells (aW []) false true))])
abbrev Zm(x1:Int×au)(x2:Int×au)(x3:Int×au)(x4:Int×au)(x5:Int×au)(x6:Int×au)(x7:Int×au)(x8:Int×au)(x9:Bool×au)(x10:bJ×au)(dV:aJ×au):=eF [2,4,5,6] (zF x1 x2 x3 x4 x5 x6 x7 x8 x9 x10 dV) (DY x1 x2 x3 x4 x5 x6 x7 x8 x9 x10 dV)
def nY(x1:Int×au)(x2:Int×au)(x3:Int×au)(x4:Int×au)(x5:Int×au)(x6:Int×au)(x7:Int×au)(x8:Int×au)(x9:Bool×au)(x10:bJ×au)(dV:aJ×au)(ND:Int×au×List Int):Option ((Int×au×List Int)⊕((au×List Int))) :=
 (AL ND x1 x2 x3 x4 x5 x6 x7 x8 x9 x10 dV).bind λ(I9:Unit⊕Unit)=>cond (jY I9) ((bX ND.2.1).bind λ(x24:Int×au)=>gd (dR 8 (ND.2.2++[x24.1]).length) (some (.inl ((IntKind.i64.wrap (ND.1-1)),x24.2,(ND.2.2++[x24.1]))))) (some (.inr (ND.2.1,ND.2.2)))
def Fq(x1:Int×au)(x2:Int×au)(x3:Int×au)(x4:Int×au)(x5:Int×au)(x6:Int×au)(x7:Int×au)(x8:Int×au)(x9:Bool×au)(x10:bJ×au)(dV:aJ×au)(ND:Int×au×List Int):Option ((au×List Int)):=dG (nY x1 x2 x3 x4 x5 x6 x7 x8 x9 x10 dV) KK ND
theorem abg(d:Nat){x1:Int×au}{x2:Int×au}{x3:Int×au}{x4:Int×au}{x5:Int×au}{x6:Int×au}{x7:Int×au}{x8:Int×au}{x9:Bool×au}{x10:bJ×au}{dV:aJ×au}{ND:Int×au×List Int}{r:(Int×au×List Int)⊕((au×List Int))}(h:nY x1 x2 x3 x4 x5 x6 x7 x8 x9 x10 dV ND=some r):dx (bF (aQ aT (d+3)) KK 120 als) 0 (jM [2,4,5,6] (zF x1 x2 x3 x4 x5 x6 x7 x8 x9 x10 dV ND)) (Zm x1 x2 x3 x4 x5 x6 x7 x8 x9 x10 dV r):=by
 unfold nY at h
 exact bU nB aou h (.bd λI9 q22=>.ite (λamD=>Jn [2,4,5,6] [none,none,none,none] [] [] (kI (il amD) (Py (d+3) q22))<|.bd λx24 q24=>Cl [] Fo [] (eP (d+0) q24)<|.gd λq25=>Ap Lc 54 q25<|.st none<|E0 [2,4,5,6]) λamD=>Jn [2,4,5,6] [none,none,none,none] [] [] (kI (Ai amD) (Py (d+3) q22))<|E0 [2,4,5])
theorem abh(d:Nat){x1:Int×au}{x2:Int×au}{x3:Int×au}{x4:Int×au}{x5:Int×au}{x6:Int×au}{x7:Int×au}{x8:Int×au}{x9:Bool×au}{x10:bJ×au}{dV:aJ×au}{ND:Int×au×List Int}{r:(au×List Int)}(h:Fq x1 x2 x3 x4 x5 x6 x7 x8 x9 x10 dV ND=some r):dx (fQ (bF (aQ aT (d+3)) KK 120 als) [2,4,5,6] KK) 0 (jM [2,4,5,6] (zF x1 x2 x3 x4 x5 x6 x7 x8 x9 x10 dV ND)) (DY x1 x2 x3 x4 x5 x6 x7 x8 x9 x10 dV r) :=
 dS (st:=zF x1 x2 x3 x4 x5 x6 x7 x8 x9 x10 dV) (fin:=DY x1 x2 x3 x4 x5 x6 x7 x8 x9 x10 dV) (step:=nY x1 x2 x3 x4 x5 x6 x7 x8 x9 x10 dV) (λe=>by(intro h;cases h)) (λs x h=>abg d h) KK ND r h
abbrev Zn(NG:Int×au×List aI)(x1:Int×au)(x2:Int×au)(x3:Int×au)(x4:Int×au)(x5:Int×au)(x6:Int×au)(x7:Int×au)(x8:Int×au)(x9:Bool×au)(x10:bJ×au)(dV:aJ×au)(jL:(au×List Int)):Fast×WH:=([(2,(.ptr (some (0,0)))),(4,(.ptr (some (1,0)))),(5,(.ptr (some (2,0)))),(7,(.int .i64 NG.1))],[(some (.cells [(.int .i64 0),(.int .i64 0),(.int .i64 0),(.int .i64 0),(.int .i64 0),(.int .i64 0),(.int .i64 0),(.int .i64 0),(.bool false),(.int .i64 0),(.int .i64 0),(.int .i64 0),(.str ([]:List UInt8)),(.str ([]:List UInt8)),(.str ([]:List UInt8)),(.int .i64 0),(.str ([]:List UInt8)),(.acc 3 0 1 0 true),(.acc 4 0 5 0 true),(.int .i64 0),(.int .i64 0),(.acc 5 0 2 0 true),(.acc 6 0 4 0 true)] false false)),(some (.cells (dL NG.2.1) false false)),(some (.cells [(.int .i64 x1.1),(.int .i64 x2.1),(.int .i64 x3.1),(.int .i64 x4.1),(.int .i64 x5.1),(.int .i64 x6.1),(.int .i64 x7.1),(.int .i64 x8.1),(.bool x9.1),(.int .i64 x10.1.Client),(.int .i64 x10.1.Seq),(.int .i64 x10.1.Op.Kind),(.str x10.1.Op.Key),(.str x10.1.Op.Value),(.str x10.1.Op.Old),(.int .i64 dV.1.Why),(.str dV.1.Value),(.acc 7 0 1 jL.2.length true),(.acc 8 0 5 NG.2.2.length true),(.int .i64 0),(.int .i64 0),(.acc 9 0 2 0 true),(.acc 10 0 4 0 true)] false false)),(some (.cells (uY []) false true)),(some (.cells (bP []) false true)),(some (.cells (aO []) false true)),(some (.cells (aW []) false true)),(some (.cells (uY jL.2) false true)),(some (.cells (bP NG.2.2) false true)),(some (.cells (aO []) false true)),(some (.cells (aW []) false true))])
def XR(NG:Int×au×List aI)(x1:Int×au)(x2:Int×au)(x3:Int×au)(x4:Int×au)(x5:Int×au)(x6:Int×au)(x7:Int×au)(x8:Int×au)(x9:Bool×au)(x10:bJ×au)(dV:aJ×au)(jL:(au×List Int)):Unit⊕Unit→Ex×Fast×WH:=fun
 |.inl e=>(.normal,[(2,(.ptr (some (0,0)))),(4,(.ptr (some (1,0)))),(5,(.ptr (some (2,0)))),(7,(.int .i64 NG.1))],[(some (.cells [(.int .i64 0),(.int .i64 0),(.int .i64 0),(.int .i64 0),(.int .i64 0),(.int .i64 0),(.int .i64 0),(.int .i64 0),(.bool false),(.int .i64 0),(.int .i64 0),(.int .i64 0),(.str ([]:List UInt8)),(.str ([]:List UInt8)),(.str ([]:List UInt8)),(.int .i64 0),(.str ([]:List UInt8)),(.acc 3 0 1 0 true),(.acc 4 0 5 0 true),(.int .i64 0),(.int .i64 0),(.acc 5 0 2 0 true),(.acc 6 0 4 0 true)] false false)),(some (.cells (dL NG.2.1) false false)),(some (.cells [(.int .i64 x1.1),(.int .i64 x2.1),(.int .i64 x3.1),(.int .i64 x4.1),(.int .i64 x5.1),(.int .i64 x6.1),(.int .i64 x7.1),(.int .i64 x8.1),(.bool x9.1),(.int .i64 x10.1.Client),(.int .i64 x10.1.Seq),(.int .i64 x10.1.Op.Kind),(.str x10.1.Op.Key),(.str x10.1.Op.Value),(.str x10.1.Op.Old),(.int .i64 dV.1.Why),(.str dV.1.Value),(.acc 7 0 1 jL.2.length true),(.acc 8 0 5 NG.2.2.length true),(.int .i64 0),(.int .i64 0),(.acc 9 0 2 0 true),(.acc 10 0 4 0 true)] false false)),(some (.cells (uY []) false true)),(some (.cells (bP []) false true)),(some (.cells (aO []) false true)),(some (.cells (aW []) false true)),(some (.cells (uY jL.2) false true)),(some (.cells (bP NG.2.2) false true)),(some (.cells (aO []) false true)),(some (.cells (aW []) false true))])
 |.inr e=>((.exit 2),[(2,(.ptr (some (0,0)))),(4,(.ptr (some (1,0)))),(5,(.ptr (some (2,0))))],[(some (.cells [(.int .i64 0),(.int .i64 0),(.int .i64 0),(.int .i64 0),(.int .i64 0),(.int .i64 0),(.int .i64 0),(.int .i64 0),(.bool false),(.int .i64 0),(.int .i64 0),(.int .i64 0),(.str ([]:List UInt8)),(.str ([]:List UInt8)),(.str ([]:List UInt8)),(.int .i64 0),(.str ([]:List UInt8)),(.acc 3 0 1 0 true),(.acc 4 0 5 0 true),(.int .i64 0),(.int .i64 0),(.acc 5 0 2 0 true),(.acc 6 0 4 0 true)] false false)),(some (.cells (dL NG.2.1) false false)),(some (.cells [(.int .i64 x1.1),(.int .i64 x2.1),(.int .i64 x3.1),(.int .i64 x4.1),(.int .i64 x5.1),(.int .i64 x6.1),(.int .i64 x7.1),(.int .i64 x8.1),(.bool x9.1),(.int .i64 x10.1.Client),(.int .i64 x10.1.Seq),(.int .i64 x10.1.Op.Kind),(.str x10.1.Op.Key),(.str x10.1.Op.Value),(.str x10.1.Op.Old),(.int .i64 dV.1.Why),(.str dV.1.Value),(.acc 7 0 1 jL.2.length true),(.acc 8 0 5 NG.2.2.length true),(.int .i64 0),(.int .i64 0),(.acc 9 0 2 0 true),(.acc 10 0 4 0 true)] false false)),(some (.cells (uY []) false true)),(some (.cells (bP []) false true)),(some (.cells (aO []) false true)),(some (.cells (aW []) false true)),(some (.cells (uY jL.2) false true)),(some (.cells (bP NG.2.2) false true)),(some (.cells (aO []) false true)),(some (.cells (aW []) false true))])
def AO(NG:Int×au×List aI)(x1:Int×au)(x2:Int×au)(x3:Int×au)(x4:Int×au)(x5:Int×au)(x6:Int×au)(x7:Int×au)(x8:Int×au)(x9:Bool×au)(x10:bJ×au)(dV:aJ×au)(jL:(au×List Int)):Option (Unit⊕Unit) :=
 cond (decide (NG.1>0)) (cond (NG.2.1.E==0) (some (.inl ())) (some (.inr ()))) (some (.inr ()))
theorem Pz(d:Nat){NG:Int×au×List aI}{x1:Int×au}{x2:Int×au}{x3:Int×au}{x4:Int×au}{x5:Int×au}{x6:Int×au}{x7:Int×au}{x8:Int×au}{x9:Bool×au}{x10:bJ×au}{dV:aJ×au}{jL:(au×List Int)}{r:Unit⊕Unit}(h:AO NG x1 x2 x3 x4 x5 x6 x7 x8 x9 x10 dV jL=some r):dx (bF (aQ aT (d+0)) KK 120 MI) 0 (Zn NG x1 x2 x3 x4 x5 x6 x7 x8 x9 x10 dV jL) (XR NG x1 x2 x3 x4 x5 x6 x7 x8 x9 x10 dV jL r):=by
 unfold AO at h
 exact bU nB Tn h (.br 60 (λ_=>.br 66 (λ_=>E0 [2,4,5,7]) λ_=>E0 [2,4,5]) λ_=>E0 [2,4,5])
def zG(x1:Int×au)(x2:Int×au)(x3:Int×au)(x4:Int×au)(x5:Int×au)(x6:Int×au)(x7:Int×au)(x8:Int×au)(x9:Bool×au)(x10:bJ×au)(dV:aJ×au)(jL:(au×List Int))(NG:Int×au×List aI):List AV×WH:=([(.ptr (some (0,0))),(.ptr (some (1,0))),(.ptr (some (2,0))),(.int .i64 NG.1)],[(some (.cells [(.int .i64 0),(.int .i64 0),(.int .i64 0),(.int .i64 0),(.int .i64 0),(.int .i64 0),(.int .i64 0),(.int .i64 0),(.bool false),(.int .i64 0),(.int .i64 0),(.int .i64 0),(.str ([]:List UInt8)),(.str ([]:List UInt8)),(.str ([]:List UInt8)),(.int .i64 0),(.str ([]:List UInt8)),(.acc 3 0 1 0 true),(.acc 4 0 5 0 true),(.int .i64 0),(.int .i64 0),(.acc 5 0 2 0 true),(.acc 6 0 4 0 true)] false false)),(some (.cells (dL NG.2.1) false false)),(some (.cells [(.int .i64 x1.1),(.int .i64 x2.1),(.int .i64 x3.1),(.int .i64 x4.1),(.int .i64 x5.1),(.int .i64 x6.1),(.int .i64 x7.1),(.int .i64 x8.1),(.bool x9.1),(.int .i64 x10.1.Client),(.int .i64 x10.1.Seq),(.int .i64 x10.1.Op.Kind),(.str x10.1.Op.Key),(.str x10.1.Op.Value),(.str x10.1.Op.Old),(.int .i64 dV.1.Why),(.str dV.1.Value),(.acc 7 0 1 jL.2.length true),(.acc 8 0 5 NG.2.2.length true),(.int .i64 0),(.int .i64 0),(.acc 9 0 2 0 true),(.acc 10 0 4 0 true)] false false)),(some (.cells (uY []) false true)),(some (.cells (bP []) false true)),(some (.cells (aO []) false true)),(some (.cells (aW []) false true)),(some (.cells (uY jL.2) false true)),(some (.cells (bP NG.2.2) false true)),(some (.cells (aO []) false true)),(some (.cells (aW []) false true))])
def D5(x1:Int×au)(x2:Int×au)(x3:Int×au)(x4:Int×au)(x5:Int×au)(x6:Int×au)(x7:Int×au)(x8:Int×au)(x9:Bool×au)(x10:bJ×au)(dV:aJ×au)(jL:(au×List Int)):(au×List aI)→Ex×Fast×WH:=λe=>((.exit 2),[(2,(.ptr (some (0,0)))),(4,(.ptr (some (1,0)))),(5,(.ptr (some (2,0))))],[(some (.cells [(.int .i64 0),(.int .i64 0),(.int .i64 0),(.int .i64 0),(.int .i64 0),(.int .i64 0),(.int .i64 0),(.int .i64 0),(.bool false),(.int .i64 0),(.int .i64 0),(.int .i64 0),(.str ([]:List UInt8)),(.str ([]:List UInt8)),(.str ([]:List UInt8)),(.int .i64 0),(.str ([]:List UInt8)),(.acc 3 0 1 0 true),(.acc 4 0 5 0 true),(.int .i64 0),(.int .i64 0),(.acc 5 0 2 0 true),(.acc 6 0 4 0 true)] false false)),(some (.cells (dL e.1) false false)),(some (.cells [(.int .i64 x1.1),(.int .i64 x2.1),(.int .i64 x3.1),(.int .i64 x4.1),(.int .i64 x5.1),(.int .i64 x6.1),(.int .i64 x7.1),(.int .i64 x8.1),(.bool x9.1),(.int .i64 x10.1.Client),(.int .i64 x10.1.Seq),(.int .i64 x10.1.Op.Kind),(.str x10.1.Op.Key),(.str x10.1.Op.Value),(.str x10.1.Op.Old),(.int .i64 dV.1.Why),(.str dV.1.Value),(.acc 7 0 1 jL.2.length true),(.acc 8 0 5 e.2.length true),(.int .i64 0),(.int .i64 0),(.acc 9 0 2 0 true),(.acc 10 0 4 0 true)] false false)),(some (.cells (uY []) false true)),(some (.cells (bP []) false true)),(some (.cells (aO []) false true)),(some (.cells (aW []) false true)),(some (.cells (uY jL.2) false true)),(some (.cells (bP e.2) false true)),(some (.cells (aO []) false true)),(some (.cells (aW []) false true))])
abbrev Zo(x1:Int×au)(x2:Int×au)(x3:Int×au)(x4:Int×au)(x5:Int×au)(x6:Int×au)(x7:Int×au)(x8:Int×au)(x9:Bool×au)(x10:bJ×au)(dV:aJ×au)(jL:(au×List Int)):=eF [2,4,5,7] (zG x1 x2 x3 x4 x5 x6 x7 x8 x9 x10 dV jL) (D5 x1 x2 x3 x4 x5 x6 x7 x8 x9 x10 dV jL)
def nZ(x1:Int×au)(x2:Int×au)(x3:Int×au)(x4:Int×au)(x5:Int×au)(x6:Int×au)(x7:Int×au)(x8:Int×au)(x9:Bool×au)(x10:bJ×au)(dV:aJ×au)(jL:(au×List Int))(NG:Int×au×List aI):Option ((Int×au×List aI)⊕((au×List aI))) :=
 (AO NG x1 x2 x3 x4 x5 x6 x7 x8 x9 x10 dV jL).bind λ(Xb:Unit⊕Unit)=>cond (jY Xb) ((bX NG.2.1).bind λ(x39:Int×au)=>(bX x39.2).bind λ(x40:Int×au)=>(bX x40.2).bind λ(x41:Int×au)=>(bX x41.2).bind λ(x42:Int×au)=>(uE x42.2).bind λ(x43:Bool×au)=>gd (dR 40 (NG.2.2++[(⟨x39.1,x40.1,x41.1,x42.1,x43.1⟩:aI)]).length) (some (.inl ((IntKind.i64.wrap (NG.1-1)),x43.2,(NG.2.2++[(⟨x39.1,x40.1,x41.1,x42.1,x43.1⟩:aI)]))))) (some (.inr (NG.2.1,NG.2.2)))
def Fu(x1:Int×au)(x2:Int×au)(x3:Int×au)(x4:Int×au)(x5:Int×au)(x6:Int×au)(x7:Int×au)(x8:Int×au)(x9:Bool×au)(x10:bJ×au)(dV:aJ×au)(jL:(au×List Int))(NG:Int×au×List aI):Option ((au×List aI)):=dG (nZ x1 x2 x3 x4 x5 x6 x7 x8 x9 x10 dV jL) KK NG
theorem abj(d:Nat){x1:Int×au}{x2:Int×au}{x3:Int×au}{x4:Int×au}{x5:Int×au}{x6:Int×au}{x7:Int×au}{x8:Int×au}{x9:Bool×au}{x10:bJ×au}{dV:aJ×au}{jL:(au×List Int)}{NG:Int×au×List aI}{r:(Int×au×List aI)⊕((au×List aI))}(h:nZ x1 x2 x3 x4 x5 x6 x7 x8 x9 x10 dV jL NG=some r):dx (bF (aQ aT (d+5)) KK 120 alu) 0 (jM [2,4,5,7] (zG x1 x2 x3 x4 x5 x6 x7 x8 x9 x10 dV jL NG)) (Zo x1 x2 x3 x4 x5 x6 x7 x8 x9 x10 dV jL r):=by
 unfold nZ at h
 exact bU nB aov h (.bd λXb q37=>.ite (λazI=>Jn [2,4,5,7] [none,none,none,none] [] [] (kI (il azI) (Pz (d+5) q37))<|.bd λx39 q39=>Cl [] Fo [] (eP (d+2) q39)<|.bd λx40 q40=>Cl [] Fo [] (eP (d+2) q40)<|.bd λx41 q41=>Cl [] Fo [] (eP (d+2) q41)<|.bd λx42 q42=>Cl [] Fo [] (eP (d+2) q42)<|.bd λx43 q43=>Cl [] Fo [] (NA (d+0) q43)<|.gd λq44=>Ap lX 83 q44<|.st none<|E0 [2,4,5,7]) λazI=>Jn [2,4,5,7] [none,none,none,none] [] [] (kI (Ai azI) (Pz (d+5) q37))<|E0 [2,4,5])
theorem abk(d:Nat){x1:Int×au}{x2:Int×au}{x3:Int×au}{x4:Int×au}{x5:Int×au}{x6:Int×au}{x7:Int×au}{x8:Int×au}{x9:Bool×au}{x10:bJ×au}{dV:aJ×au}{jL:(au×List Int)}{NG:Int×au×List aI}{r:(au×List aI)}(h:Fu x1 x2 x3 x4 x5 x6 x7 x8 x9 x10 dV jL NG=some r):dx (fQ (bF (aQ aT (d+5)) KK 120 alu) [2,4,5,7] KK) 0 (jM [2,4,5,7] (zG x1 x2 x3 x4 x5 x6 x7 x8 x9 x10 dV jL NG)) (D5 x1 x2 x3 x4 x5 x6 x7 x8 x9 x10 dV jL r) :=
 dS (st:=zG x1 x2 x3 x4 x5 x6 x7 x8 x9 x10 dV jL) (fin:=D5 x1 x2 x3 x4 x5 x6 x7 x8 x9 x10 dV jL) (step:=nZ x1 x2 x3 x4 x5 x6 x7 x8 x9 x10 dV jL) (λe=>by(intro h;cases h)) (λs x h=>abj d h) KK NG r h
abbrev Zp(Me:aM×au)(x1:Int×au)(x2:Int×au)(x3:Int×au)(x4:Int×au)(x5:Int×au)(x6:Int×au)(x7:Int×au)(x8:Int×au)(x9:Bool×au)(x10:bJ×au)(dV:aJ×au)(jL:(au×List Int))(Yg:(au×List aI)):Fast×WH:=([(2,(.ptr (some (0,0)))),(4,(.ptr (some (1,0)))),(5,(.ptr (some (2,0))))],[(some (.cells [(.int .i64 0),(.int .i64 0),(.int .i64 0),(.int .i64 0),(.int .i64 0),(.int .i64 0),(.int .i64 0),(.int .i64 0),(.bool false),(.int .i64 0),(.int .i64 0),(.int .i64 0),(.str ([]:List UInt8)),(.str ([]:List UInt8)),(.str ([]:List UInt8)),(.int .i64 0),(.str ([]:List UInt8)),(.acc 3 0 1 0 true),(.acc 4 0 5 0 true),(.int .i64 0),(.int .i64 0),(.acc 5 0 2 0 true),(.acc 6 0 4 0 true)] false false)),(some (.cells (dL Me.2) false false)),(some (.cells [(.int .i64 x1.1),(.int .i64 x2.1),(.int .i64 x3.1),(.int .i64 x4.1),(.int .i64 x5.1),(.int .i64 x6.1),(.int .i64 x7.1),(.int .i64 x8.1),(.bool x9.1),(.int .i64 x10.1.Client),(.int .i64 x10.1.Seq),(.int .i64 x10.1.Op.Kind),(.str x10.1.Op.Key),(.str x10.1.Op.Value),(.str x10.1.Op.Old),(.int .i64 dV.1.Why),(.str dV.1.Value),(.acc 7 0 1 jL.2.length true),(.acc 8 0 5 Yg.2.length true),(.int .i64 Me.1.fJ),(.int .i64 Me.1.Epoch),(dA Me.1.Pairs),(dY Me.1.fu)] false false)),(some (.cells (uY []) false true)),(some (.cells (bP []) false true)),(some (.cells (aO []) false true)),(some (.cells (aW []) false true)),(some (.cells (uY jL.2) false true)),(some (.cells (bP Yg.2) false true))])
def XT(Me:aM×au)(x1:Int×au)(x2:Int×au)(x3:Int×au)(x4:Int×au)(x5:Int×au)(x6:Int×au)(x7:Int×au)(x8:Int×au)(x9:Bool×au)(x10:bJ×au)(dV:aJ×au)(jL:(au×List Int))(Yg:(au×List aI)):Bool→Ex×Fast×WH:=λe=>(.normal,[(2,(.ptr (some (0,0)))),(4,(.ptr (some (1,0)))),(5,(.ptr (some (2,0)))),(105,(.bool e))],[(some (.cells [(.int .i64 0),(.int .i64 0),(.int .i64 0),(.int .i64 0),(.int .i64 0),(.int .i64 0),(.int .i64 0),(.int .i64 0),(.bool false),(.int .i64 0),(.int .i64 0),(.int .i64 0),(.str ([]:List UInt8)),(.str ([]:List UInt8)),(.str ([]:List UInt8)),(.int .i64 0),(.str ([]:List UInt8)),(.acc 3 0 1 0 true),(.acc 4 0 5 0 true),(.int .i64 0),(.int .i64 0),(.acc 5 0 2 0 true),(.acc 6 0 4 0 true)] false false)),(some (.cells (dL Me.2) false false)),(some (.cells [(.int .i64 x1.1),(.int .i64 x2.1),(.int .i64 x3.1),(.int .i64 x4.1),(.int .i64 x5.1),(.int .i64 x6.1),(.int .i64 x7.1),(.int .i64 x8.1),(.bool x9.1),(.int .i64 x10.1.Client),(.int .i64 x10.1.Seq),(.int .i64 x10.1.Op.Kind),(.str x10.1.Op.Key),(.str x10.1.Op.Value),(.str x10.1.Op.Old),(.int .i64 dV.1.Why),(.str dV.1.Value),(.acc 7 0 1 jL.2.length true),(.acc 8 0 5 Yg.2.length true),(.int .i64 Me.1.fJ),(.int .i64 Me.1.Epoch),(dA Me.1.Pairs),(dY Me.1.fu)] false false)),(some (.cells (uY []) false true)),(some (.cells (bP []) false true)),(some (.cells (aO []) false true)),(some (.cells (aW []) false true)),(some (.cells (uY jL.2) false true)),(some (.cells (bP Yg.2) false true))])
def Ma(Me:aM×au)(x1:Int×au)(x2:Int×au)(x3:Int×au)(x4:Int×au)(x5:Int×au)(x6:Int×au)(x7:Int×au)(x8:Int×au)(x9:Bool×au)(x10:bJ×au)(dV:aJ×au)(jL:(au×List Int))(Yg:(au×List aI)):Option (Bool) :=
 cond (Me.2.E==0) (cond (decide ((Me.2.B.length:Int)>0)) (some true) ((uN (⟨x1.1,x2.1,x3.1,x4.1,x5.1,x6.1,x7.1,x8.1,x9.1,x10.1,dV.1,jL.2,Yg.2,Me.1⟩:aG)).bind λ(x47:Bool)=>some (!x47))) (some false)
theorem abl(d:Nat){Me:aM×au}{x1:Int×au}{x2:Int×au}{x3:Int×au}{x4:Int×au}{x5:Int×au}{x6:Int×au}{x7:Int×au}{x8:Int×au}{x9:Bool×au}{x10:bJ×au}{dV:aJ×au}{jL:(au×List Int)}{Yg:(au×List aI)}{r:Bool}(h:Ma Me x1 x2 x3 x4 x5 x6 x7 x8 x9 x10 dV jL Yg=some r):dx (bF (aQ aT (d+7)) KK 120 OZ) 0 (Zp Me x1 x2 x3 x4 x5 x6 x7 x8 x9 x10 dV jL Yg) (XT Me x1 x2 x3 x4 x5 x6 x7 x8 x9 x10 dV jL Yg r):=by
 unfold Ma at h
 exact bU nB U_ h (.br 93 (λ_=>.br 100 (λ_=>E0 [2,4,5,105]) λ_=>.bd λx47 q47=>Cb [.agg [.undef,.undef,.undef,.undef,.undef,.undef,.undef,.undef,.undef,.undef,.undef,.undef,.undef,.undef,.undef,.undef,.undef,.slice none 1 0 0 true,.slice none 5 0 0 true,.undef,.undef,.slice none 2 0 0 true,.slice none 4 0 0 true]] (LV (d+0) q47)<|E0 [2,4,5,105]) λ_=>E0 [2,4,5,105])
abbrev Zq(Me:aM×au)(x1:Int×au)(x2:Int×au)(x3:Int×au)(x4:Int×au)(x5:Int×au)(x6:Int×au)(x7:Int×au)(x8:Int×au)(x9:Bool×au)(x10:bJ×au)(dV:aJ×au)(jL:(au×List Int))(Yg:(au×List aI)):Fast×WH:=([(2,(.ptr (some (0,0)))),(4,(.ptr (some (1,0)))),(5,(.ptr (some (2,0))))],[(some (.cells [(.int .i64 0),(.int .i64 0),(.int .i64 0),(.int .i64 0),(.int .i64 0),(.int .i64 0),(.int .i64 0),(.int .i64 0),(.bool false),(.int .i64 0),(.int .i64 0),(.int .i64 0),(.str ([]:List UInt8)),(.str ([]:List UInt8)),(.str ([]:List UInt8)),(.int .i64 0),(.str ([]:List UInt8)),(.acc 3 0 1 0 true),(.acc 4 0 5 0 true),(.int .i64 0),(.int .i64 0),(.acc 5 0 2 0 true),(.acc 6 0 4 0 true)] false false)),(some (.cells (dL Me.2) false false)),(some (.cells [(.int .i64 x1.1),(.int .i64 x2.1),(.int .i64 x3.1),(.int .i64 x4.1),(.int .i64 x5.1),(.int .i64 x6.1),(.int .i64 x7.1),(.int .i64 x8.1),(.bool x9.1),(.int .i64 x10.1.Client),(.int .i64 x10.1.Seq),(.int .i64 x10.1.Op.Kind),(.str x10.1.Op.Key),(.str x10.1.Op.Value),(.str x10.1.Op.Old),(.int .i64 dV.1.Why),(.str dV.1.Value),(.acc 7 0 1 jL.2.length true),(.acc 8 0 5 Yg.2.length true),(.int .i64 Me.1.fJ),(.int .i64 Me.1.Epoch),(dA Me.1.Pairs),(dY Me.1.fu)] false false)),(some (.cells (uY []) false true)),(some (.cells (bP []) false true)),(some (.cells (aO []) false true)),(some (.cells (aW []) false true)),(some (.cells (uY jL.2) false true)),(some (.cells (bP Yg.2) false true))])
def XU(Me:aM×au)(x1:Int×au)(x2:Int×au)(x3:Int×au)(x4:Int×au)(x5:Int×au)(x6:Int×au)(x7:Int×au)(x8:Int×au)(x9:Bool×au)(x10:bJ×au)(dV:aJ×au)(jL:(au×List Int))(Yg:(au×List aI)):au→Ex×Fast×WH:=λe=>(.normal,[(2,(.ptr (some (0,0)))),(4,(.ptr (some (1,0)))),(5,(.ptr (some (2,0))))],[(some (.cells [(.int .i64 0),(.int .i64 0),(.int .i64 0),(.int .i64 0),(.int .i64 0),(.int .i64 0),(.int .i64 0),(.int .i64 0),(.bool false),(.int .i64 0),(.int .i64 0),(.int .i64 0),(.str ([]:List UInt8)),(.str ([]:List UInt8)),(.str ([]:List UInt8)),(.int .i64 0),(.str ([]:List UInt8)),(.acc 3 0 1 0 true),(.acc 4 0 5 0 true),(.int .i64 0),(.int .i64 0),(.acc 5 0 2 0 true),(.acc 6 0 4 0 true)] false false)),(some (.cells (dL e) false false)),(some (.cells [(.int .i64 x1.1),(.int .i64 x2.1),(.int .i64 x3.1),(.int .i64 x4.1),(.int .i64 x5.1),(.int .i64 x6.1),(.int .i64 x7.1),(.int .i64 x8.1),(.bool x9.1),(.int .i64 x10.1.Client),(.int .i64 x10.1.Seq),(.int .i64 x10.1.Op.Kind),(.str x10.1.Op.Key),(.str x10.1.Op.Value),(.str x10.1.Op.Old),(.int .i64 dV.1.Why),(.str dV.1.Value),(.acc 7 0 1 jL.2.length true),(.acc 8 0 5 Yg.2.length true),(.int .i64 Me.1.fJ),(.int .i64 Me.1.Epoch),(dA Me.1.Pairs),(dY Me.1.fu)] false false)),(some (.cells (uY []) false true)),(some (.cells (bP []) false true)),(some (.cells (aO []) false true)),(some (.cells (aW []) false true)),(some (.cells (uY jL.2) false true)),(some (.cells (bP Yg.2) false true))])
def Mc(Me:aM×au)(x1:Int×au)(x2:Int×au)(x3:Int×au)(x4:Int×au)(x5:Int×au)(x6:Int×au)(x7:Int×au)(x8:Int×au)(x9:Bool×au)(x10:bJ×au)(dV:aJ×au)(jL:(au×List Int))(Yg:(au×List aI)):Option (au) :=
 (Ma Me x1 x2 x3 x4 x5 x6 x7 x8 x9 x10 dV jL Yg).bind λ(x48:Bool)=>cond x48 (some (⟨Me.2.B,2⟩:au)) (some Me.2)
theorem abm(d:Nat){Me:aM×au}{x1:Int×au}{x2:Int×au}{x3:Int×au}{x4:Int×au}{x5:Int×au}{x6:Int×au}{x7:Int×au}{x8:Int×au}{x9:Bool×au}{x10:bJ×au}{dV:aJ×au}{jL:(au×List Int)}{Yg:(au×List aI)}{r:au}(h:Mc Me x1 x2 x3 x4 x5 x6 x7 x8 x9 x10 dV jL Yg=some r):dx (bF (aQ aT (d+7)) KK 120 QJ) 0 (Zq Me x1 x2 x3 x4 x5 x6 x7 x8 x9 x10 dV jL Yg) (XU Me x1 x2 x3 x4 x5 x6 x7 x8 x9 x10 dV jL Yg r):=by
 unfold Mc at h
 exact bU nB WJ h (.bd λx48 q48=>Jn [2,4,5] [none,none,none] [] [] (abl (d+0) q48)<|.br 105 (λ_=>.st none<|E0 [2,4,5]) λ_=>E0 [2,4,5])
def ER(bS:List UInt8):Option (aG×Int) :=
 (bX (⟨bS,0⟩:au)).bind λ(x1:Int×au)=>(bX x1.2).bind λ(x2:Int×au)=>(bX x2.2).bind λ(x3:Int×au)=>(bX x3.2).bind λ(x4:Int×au)=>(bX x4.2).bind λ(x5:Int×au)=>(bX x5.2).bind λ(x6:Int×au)=>(bX x6.2).bind λ(x7:Int×au)=>(bX x7.2).bind λ(x8:Int×au)=>(uE x8.2).bind λ(x9:Bool×au)=>(wz x9.2).bind λ(x10:bJ×au)=>(kZ x10.2).bind λ(dV:aJ×au)=>(fO 5 dV.2).bind λ(dZ:Int×au)=>(Fq x1 x2 x3 x4 x5 x6 x7 x8 x9 x10 dV (dZ.1,dZ.2,[])).bind λ(jL:(au×List Int))=>(fO 5 jL.1).bind λ(x27:Int×au)=>(Fu x1 x2 x3 x4 x5 x6 x7 x8 x9 x10 dV jL (x27.1,x27.2,[])).bind λ(Yg:(au×List aI))=>(r9 Yg.1).bind λ(Me:aM×au)=>(Mc Me x1 x2 x3 x4 x5 x6 x7 x8 x9 x10 dV jL Yg).bind λ(x49:au)=>cond (x49.E != 0) (some ((⟨0,0,0,0,0,0,0,0,false,(⟨0,0,(⟨0,([]:List UInt8),([]:List UInt8),([]:List UInt8)⟩:bZ)⟩:bJ),(⟨0,([]:List UInt8)⟩:aJ),[],[],(⟨0,0,[],[]⟩:aM)⟩:aG),x49.E)) (some ((⟨x1.1,x2.1,x3.1,x4.1,x5.1,x6.1,x7.1,x8.1,x9.1,x10.1,dV.1,jL.2,Yg.2,Me.1⟩:aG),0))
def R7(bS:List UInt8)(r:aG×Int):AV×WH:=((.tuple [(.agg (dI r.1)),(.int .i64 r.2)]),[])
theorem ahP(d:Nat){bS:List UInt8}{r:aG×Int}(h:ER bS=some r):Spec (aQ aT (d+8)) 18 [(rC bS)] [] (R7 bS r).1 (R7 bS r).2:=by
 unfold ER at h
 exact bK nB aCj h (.z 2 [.undef,.undef,.undef,.undef,.undef,.undef,.undef,.undef,.undef,.undef,.undef,.undef,.undef,.undef,.undef,.undef,.undef,.slice none 1 0 0 true,.slice none 5 0 0 true,.undef,.undef,.slice none 2 0 0 true,.slice none 4 0 0 true]<|.bd λx1 q1=>Cl [] Fo [] (eP (d+4) q1)<|.bd λx2 q2=>Cl [] Fo [] (eP (d+4) q2)<|.bd λx3 q3=>Cl [] Fo [] (eP (d+4) q3)<|.bd λx4 q4=>Cl [] Fo [] (eP (d+4) q4)<|.bd λx5 q5=>Cl [] Fo [] (eP (d+4) q5)<|.bd λx6 q6=>Cl [] Fo [] (eP (d+4) q6)<|.bd λx7 q7=>Cl [] Fo [] (eP (d+4) q7)<|.bd λx8 q8=>Cl [] Fo [] (eP (d+4) q8)<|.bd λx9 q9=>Cl [] Fo [] (NA (d+2) q9)<|.z 29 [.agg [.undef,.undef,.undef,.undef,.undef,.undef,.undef,.undef,.undef,.undef,.undef,.undef,.undef,.undef,.undef,.undef,.undef,.slice none 1 0 0 true,.slice none 5 0 0 true,.undef,.undef,.slice none 2 0 0 true,.slice none 4 0 0 true]]<|.z 5 [.undef,.undef,.undef,.undef,.undef,.undef,.undef,.undef,.undef,.undef,.undef,.undef,.undef,.undef,.undef,.undef,.undef,.slice none 1 0 0 true,.slice none 5 0 0 true,.undef,.undef,.slice none 2 0 0 true,.slice none 4 0 0 true]<|.st none<|.bd λx10 MG=>Cl [] Fo [] (abf (d+2) MG)<|.st none<|.bd λdV J5=>Cl [] Fo [] (JI (d+2) J5)<|.st none<|.bd λdZ MO=>Cl [] Fo [] (sW (d+3) MO)<|.bd λjL q26=>Lp [none,none,none,none] [Tw,Tw,Tw,Tw,Tw,Tw,Tw,Tw,Tw,Tw,Tw] [] (abh (d+4) q26)<|.bd λx27 q27=>Cl [] Fo [] (sW (d+3) q27)<|.bd λYg q45=>Lp [none,none,none,none] [] [] (abk (d+2) q45)<|.bd λMe q46=>Cl [] Fo [] (XP (d+0) q46)<|.st none<|.bd λx49 q49=>Jn [2,4,5] [none,none,none] [] [] (abm (d+0) q49)<|.br 113 (λ_=>.z 114 [.agg [.undef,.undef,.undef,.undef,.undef,.undef,.undef,.undef,.undef,.undef,.undef,.undef,.undef,.undef,.undef,.undef,.undef,.slice none 1 0 0 true,.slice none 5 0 0 true,.undef,.undef,.slice none 2 0 0 true,.slice none 4 0 0 true]]<|.st none<|Fn Fo [.tuple [.agg [.undef,.undef,.undef,.undef,.undef,.undef,.undef,.undef,.undef,.undef,.undef,.undef,.undef,.undef,.undef,.undef,.undef,.slice none 1 0 0 true,.slice none 5 0 0 true,.undef,.undef,.slice none 2 0 0 true,.slice none 4 0 0 true],.undef]] none) λ_=>.st none<|Fn Fo [.tuple [.agg [.undef,.undef,.undef,.undef,.undef,.undef,.undef,.undef,.undef,.undef,.undef,.undef,.undef,.undef,.undef,.undef,.undef,.slice none 1 0 0 true,.slice none 5 0 0 true,.undef,.undef,.slice none 2 0 0 true,.slice none 4 0 0 true],.undef]] none)
abbrev XV(dZ:aG)(s11:Int×Int×List (List UInt8))(l:List aG):Fast×WH:=([(0,(.ptr (some (0,0)))),(5,(.int .i64 s11.1)),(7,(.ptr (some (1,0)))),(8,(gN l)),(9,(.int .i64 (l.length:Int))),(10,(.int .i64 s11.2.1))],[(some (.cells [(.acc 2 0 1 s11.2.2.length true)] false false)),(some (.cells (dI dZ) false false)),(some (.cells (mq s11.2.2) false true))])
def VH(dZ:aG)(s11:Int×Int×List (List UInt8))(l:List aG):Bool→Ex×Fast×WH:=λe=>(.normal,[(0,(.ptr (some (0,0)))),(5,(.int .i64 s11.1)),(7,(.ptr (some (1,0)))),(8,(gN l)),(9,(.int .i64 (l.length:Int))),(10,(.int .i64 s11.2.1)),(23,(.bool e))],[(some (.cells [(.acc 2 0 1 s11.2.2.length true)] false false)),(some (.cells (dI dZ) false false)),(some (.cells (mq s11.2.2) false true))])
def JJ(dZ:aG)(s11:Int×Int×List (List UInt8))(l:List aG):Option (Bool) :=
 (Cn dZ).bind λ(rV:Bool)=>cond rV (some (decide ((s11.2.2.length:Int)<60))) (some false)
theorem Zr(d:Nat){dZ:aG}{s11:Int×Int×List (List UInt8)}{l:List aG}{r:Bool}(h:JJ dZ s11 l=some r):dx (bF (aQ aT (d+11)) KK 39 CU) 1 (XV dZ s11 l) (VH dZ s11 l r):=by
 unfold JJ at h
 exact bU nB FI h (.bd λrV YL=>Cb [.agg [.undef,.undef,.undef,.undef,.undef,.undef,.undef,.undef,.undef,.undef,.undef,.undef,.undef,.undef,.undef,.undef,.undef,.slice none 1 0 0 true,.slice none 5 0 0 true,.undef,.undef,.slice none 2 0 0 true,.slice none 4 0 0 true]] (KV (d+0) YL)<|.br 16 (λ_=>E1 [0,5,7,8,9,10,23] [none,none,none,none,none,none,none] [] [.undef,.undef,.undef,.slice none 23 0 0 true,.undef,.undef,.undef]) λ_=>E1 [0,5,7,8,9,10,23] [none,none,none,none,none,none,none] [] [.undef,.undef,.undef,.slice none 23 0 0 true,.undef,.undef,.undef])
def xu(l:List aG)(s11:Int×Int×List (List UInt8)):List AV×WH:=([(.ptr (some (0,0))),(.int .i64 s11.1),(gN l),(.int .i64 (l.length:Int)),(.int .i64 s11.2.1)],[(some (.cells [(.acc 1 0 1 s11.2.2.length true)] false false)),(some (.cells (mq s11.2.2) false true))])
def BS(l:List aG):(Int×List (List UInt8))→Ex×Fast×WH:=λe=>((.exit 0),[(5,(.int .i64 e.1))],[(some (.cells [(.acc 1 0 1 e.2.length true)] false false)),(some (.cells (mq e.2) false true))])
abbrev XW(l:List aG):=eF [0,5,8,9,10] (xu l) (BS l)
def zH(l:List aG)(s11:Int×Int×List (List UInt8)):Option ((Int×Int×List (List UInt8))⊕((Int×List (List UInt8)))) :=
 cond (decide (s11.2.1<(l.length:Int))) ((dH l s11.2.1).bind λ(dZ:aG)=>(JJ dZ s11 l).bind λ(nO:Bool)=>cond nO ((Ta dZ).bind λ(dP:List UInt8)=>gd (dR 24 (s11.2.2++[dP]).length) (some (.inl ((IntKind.i64.wrap (s11.1+1)),(IntKind.i64.wrap (s11.2.1+1)),(s11.2.2++[dP]))))) (some (.inl (s11.1,(IntKind.i64.wrap (s11.2.1+1)),s11.2.2)))) (some (.inr (s11.1,s11.2.2)))
def R8(l:List aG)(s11:Int×Int×List (List UInt8)):Option ((Int×List (List UInt8))):=dG (zH l) KK s11
theorem Zt(d:Nat){l:List aG}{s11:Int×Int×List (List UInt8)}{r:(Int×Int×List (List UInt8))⊕((Int×List (List UInt8)))}(h:zH l s11=some r):dx (bF (aQ aT (d+12)) KK 39 acK) 1 (jM [0,5,8,9,10] (xu l s11)) (XW l r):=by
 unfold zH at h
 exact bU nB afL h (.br 11 (λ_=>.bd λdZ MO=>Ix fB 12 MO<|.z 7 [.undef,.undef,.undef,.undef,.undef,.undef,.undef,.undef,.undef,.undef,.undef,.undef,.undef,.undef,.undef,.undef,.undef,.slice none 1 0 0 true,.slice none 5 0 0 true,.undef,.undef,.slice none 2 0 0 true,.slice none 4 0 0 true]<|.st none<|.bd λnO PZ=>Jn [0,5,7,8,9,10] [none,none,none,none,none,none] [] [.undef,.undef,.undef,.slice none 23 0 0 true,.undef,.undef] (Zr (d+1) PZ)<|.br 23 (λ_=>.bd λdP Md=>Cl [] Fo [.agg [.undef,.undef,.undef,.undef,.undef,.undef,.undef,.undef,.undef,.undef,.undef,.undef,.undef,.undef,.undef,.undef,.undef,.slice none 1 0 0 true,.slice none 5 0 0 true,.undef,.undef,.slice none 2 0 0 true,.slice none 4 0 0 true]] (agk (d+0) Md)<|.gd λq16=>Ap PX 32 q16<|.st none<|E1 [0,5,8,9,10] [none,none,none,none,none] [] [.undef,.undef,.slice none 23 0 0 true,.undef,.undef]) λ_=>E1 [0,5,8,9,10] [none,none,none,none,none] [] [.undef,.undef,.slice none 23 0 0 true,.undef,.undef]) λ_=>E0 [5])
theorem Zu(d:Nat){l:List aG}{s11:Int×Int×List (List UInt8)}{r:(Int×List (List UInt8))}(h:R8 l s11=some r):dx (fQ (bF (aQ aT (d+12)) KK 39 acK) [0,5,8,9,10] KK) 1 (jM [0,5,8,9,10] (xu l s11)) (BS l r) :=
 dS (st:=xu l) (fin:=BS l) (step:=zH l) (λe=>by(intro h;cases h)) (λs x h=>Zt d h) KK s11 r h
def R9(l:List aG):Option (Int×List (List UInt8)) :=
 (R8 l (0,0,[])).bind λ(kJ:(Int×List (List UInt8)))=>some (kJ.1,kJ.2)
def PD(l:List aG)(r:Int×List (List UInt8)):AV×WH:=((.int .i64 r.1),[(some (.cells [(.acc 1 0 1 r.2.length true)] false false)),(some (.cells (mq r.2) false true))])
theorem ae6(d:Nat){l:List aG}{r:Int×List (List UInt8)}(h:R9 l=some r):Spec (aQ aT (d+13)) 20 [(.ptr (some (0,0))),(gN l)] [(some (.cells [(.slice none 1 0 0 true)] false false))] (PD l r).1 (PD l r).2:=by
 unfold R9 at h
 exact bK nB aAL h (.bd λkJ J4=>Lp [none,none,none,none,none] [Tw,Tw] [.undef,.undef,.slice none 23 0 0 true,.undef,.undef] (Zu (d+0) J4)<|Fn Fo [] none)
abbrev TT(dZ:aG)(s11:Int×Int×List (List UInt8))(l:List aG):Fast×WH:=([(0,(.ptr (some (0,0)))),(5,(.int .i64 s11.1)),(7,(.ptr (some (2,0)))),(8,(gN l)),(9,(.int .i64 (l.length:Int))),(10,(.int .i64 s11.2.1))],[(some (.cells [(.acc 3 0 1 s11.2.2.length true)] false false)),none,(some (.cells (dI dZ) false false)),(some (.cells (mq s11.2.2) false true))])
def R_(dZ:aG)(s11:Int×Int×List (List UInt8))(l:List aG):Bool→Ex×Fast×WH:=λe=>(.normal,[(0,(.ptr (some (0,0)))),(5,(.int .i64 s11.1)),(7,(.ptr (some (2,0)))),(8,(gN l)),(9,(.int .i64 (l.length:Int))),(10,(.int .i64 s11.2.1)),(23,(.bool e))],[(some (.cells [(.acc 3 0 1 s11.2.2.length true)] false false)),none,(some (.cells (dI dZ) false false)),(some (.cells (mq s11.2.2) false true))])
def zI(dZ:aG)(s11:Int×Int×List (List UInt8))(l:List aG):Option (Bool) :=
 (Cn dZ).bind λ(rV:Bool)=>cond rV (some (decide ((s11.2.2.length:Int)<60))) (some false)
theorem VJ(d:Nat){dZ:aG}{s11:Int×Int×List (List UInt8)}{l:List aG}{r:Bool}(h:zI dZ s11 l=some r):dx (bF (aQ aT (d+11)) KK 39 CU) 2 (TT dZ s11 l) (R_ dZ s11 l r):=by
 unfold zI at h
 exact bU nB FI h (.bd λrV YL=>Cb [.agg [.undef,.undef,.undef,.undef,.undef,.undef,.undef,.undef,.undef,.undef,.undef,.undef,.undef,.undef,.undef,.undef,.undef,.slice none 1 0 0 true,.slice none 5 0 0 true,.undef,.undef,.slice none 2 0 0 true,.slice none 4 0 0 true]] (KV (d+0) YL)<|.br 16 (λ_=>E1 [0,5,7,8,9,10,23] [none,none,none,none,none,none,none] [] [.undef,.undef,.undef,.slice none 23 0 0 true,.undef,.undef,.undef]) λ_=>E1 [0,5,7,8,9,10,23] [none,none,none,none,none,none,none] [] [.undef,.undef,.undef,.slice none 23 0 0 true,.undef,.undef,.undef])
def tZ(l:List aG)(s11:Int×Int×List (List UInt8)):List AV×WH:=([(.ptr (some (0,0))),(.int .i64 s11.1),(gN l),(.int .i64 (l.length:Int)),(.int .i64 s11.2.1)],[(some (.cells [(.acc 2 0 1 s11.2.2.length true)] false false)),none,(some (.cells (mq s11.2.2) false true))])
def yG(l:List aG):(Int×List (List UInt8))→Ex×Fast×WH:=λe=>((.exit 0),[(5,(.int .i64 e.1))],[(some (.cells [(.acc 2 0 1 e.2.length true)] false false)),none,(some (.cells (mq e.2) false true))])
abbrev TU(l:List aG):=eF [0,5,8,9,10] (tZ l) (yG l)
def mQ(l:List aG)(s11:Int×Int×List (List UInt8)):Option ((Int×Int×List (List UInt8))⊕((Int×List (List UInt8)))) :=
 cond (decide (s11.2.1<(l.length:Int))) ((dH l s11.2.1).bind λ(dZ:aG)=>(zI dZ s11 l).bind λ(nO:Bool)=>cond nO ((Ta dZ).bind λ(dP:List UInt8)=>gd (dR 24 (s11.2.2++[dP]).length) (some (.inl ((IntKind.i64.wrap (s11.1+1)),(IntKind.i64.wrap (s11.2.1+1)),(s11.2.2++[dP]))))) (some (.inl (s11.1,(IntKind.i64.wrap (s11.2.1+1)),s11.2.2)))) (some (.inr (s11.1,s11.2.2)))
def zJ(l:List aG)(s11:Int×Int×List (List UInt8)):Option ((Int×List (List UInt8))):=dG (mQ l) KK s11
theorem VK(d:Nat){l:List aG}{s11:Int×Int×List (List UInt8)}{r:(Int×Int×List (List UInt8))⊕((Int×List (List UInt8)))}(h:mQ l s11=some r):dx (bF (aQ aT (d+12)) KK 39 acK) 2 (jM [0,5,8,9,10] (tZ l s11)) (TU l r):=by
 unfold mQ at h
 exact bU nB afL h (.br 11 (λ_=>.bd λdZ MO=>Ix fB 12 MO<|.z 7 [.undef,.undef,.undef,.undef,.undef,.undef,.undef,.undef,.undef,.undef,.undef,.undef,.undef,.undef,.undef,.undef,.undef,.slice none 1 0 0 true,.slice none 5 0 0 true,.undef,.undef,.slice none 2 0 0 true,.slice none 4 0 0 true]<|.st none<|.bd λnO PZ=>Jn [0,5,7,8,9,10] [none,none,none,none,none,none] [] [.undef,.undef,.undef,.slice none 23 0 0 true,.undef,.undef] (VJ (d+1) PZ)<|.br 23 (λ_=>.bd λdP Md=>Cl [] Fo [.agg [.undef,.undef,.undef,.undef,.undef,.undef,.undef,.undef,.undef,.undef,.undef,.undef,.undef,.undef,.undef,.undef,.undef,.slice none 1 0 0 true,.slice none 5 0 0 true,.undef,.undef,.slice none 2 0 0 true,.slice none 4 0 0 true]] (agk (d+0) Md)<|.gd λq16=>Ap PX 32 q16<|.st none<|E1 [0,5,8,9,10] [none,none,none,none,none] [] [.undef,.undef,.slice none 23 0 0 true,.undef,.undef]) λ_=>E1 [0,5,8,9,10] [none,none,none,none,none] [] [.undef,.undef,.slice none 23 0 0 true,.undef,.undef]) λ_=>E0 [5])
theorem VN(d:Nat){l:List aG}{s11:Int×Int×List (List UInt8)}{r:(Int×List (List UInt8))}(h:zJ l s11=some r):dx (fQ (bF (aQ aT (d+12)) KK 39 acK) [0,5,8,9,10] KK) 2 (jM [0,5,8,9,10] (tZ l s11)) (yG l r) :=
 dS (st:=tZ l) (fin:=yG l) (step:=mQ l) (λe=>by(intro h;cases h)) (λs x h=>VK d h) KK s11 r h
def AP(l:List aG)(aV:List (List UInt8)):Option (Int×List (List UInt8)) :=
 (zJ l (0,0,aV)).bind λ(kJ:(Int×List (List UInt8)))=>some (kJ.1,kJ.2)
def K5(l:List aG)(aV:List (List UInt8))(r:Int×List (List UInt8)):AV×WH:=((.int .i64 r.1),[(some (.cells [(.acc 2 0 1 r.2.length true)] false false)),none,(some (.cells (mq r.2) false true))])
theorem abn(d:Nat){l:List aG}{aV:List (List UInt8)}{r:Int×List (List UInt8)}(h:AP l aV=some r):Spec (aQ aT (d+13)) 20 [(.ptr (some (0,0))),(gN l)] [(some (.cells [(.acc 1 0 1 aV.length true)] false false)),(some (.cells (mq aV) false true))] (K5 l aV r).1 (K5 l aV r).2:=by
 unfold AP at h
 exact bK nB aAL h (.bd λkJ J4=>Lp [none,none,none,none,none] [Tw,Tw,Tw] [.undef,.undef,.slice none 23 0 0 true,.undef,.undef] (VN (d+0) J4)<|Fn Fo [] none)
def yH(k:Int)(aV:List (List UInt8)):Option (Bool) :=
 cond (decide (k≥0)) (some (decide (k<(aV.length:Int)))) (some false)
def Sc(k:Int)(aV:List (List UInt8))(r:Bool):AV×WH:=((.bool r),[(some (.cells [(.acc 1 0 1 aV.length true)] false false)),(some (.cells (mq aV) false true))])
theorem Ib(d:Nat){k:Int}{aV:List (List UInt8)}{r:Bool}(h:yH k aV=some r):Spec (aQ aT (d+1)) 72 [(.ptr (some (0,0))),(.int .i64 k)] [(some (.cells [(.acc 1 0 1 aV.length true)] false false)),(some (.cells (mq aV) false true))] (Sc k aV r).1 (Sc k aV r).2:=by
 unfold yH at h
 exact bK nB aC5 h (.br 7 (λ_=>Fn Fo [] none) λ_=>Fn Fo [] none)
abbrev VO(k:Int)(aV:List (List UInt8))(j:Int):Fast×WH:=([(0,(.ptr (some (0,0)))),(1,(.int .i64 k)),(2,(.int .i64 j))],[(some (.cells [(.acc 1 0 1 aV.length true)] false false)),(some (.cells (mq aV) false true))])
def TV(k:Int)(aV:List (List UInt8))(j:Int):Unit⊕Unit→Ex×Fast×WH:=fun
 |.inl e=>(.ret,[(6,(.bool false))],[(some (.cells [(.acc 1 0 1 aV.length true)] false false)),(some (.cells (mq aV) false true))])
 |.inr e=>(.normal,[(0,(.ptr (some (0,0)))),(1,(.int .i64 k)),(2,(.int .i64 j))],[(some (.cells [(.acc 1 0 1 aV.length true)] false false)),(some (.cells (mq aV) false true))])
def vX(k:Int)(aV:List (List UInt8))(j:Int):Option (Unit⊕Unit) :=
 (yH k aV).bind λ(x1:Bool)=>cond (!x1) (some (.inl ())) ((yH j aV).bind λ(x2:Bool)=>cond (!x2) (some (.inl ())) (some (.inr ())))
theorem K6(d:Nat){k:Int}{aV:List (List UInt8)}{j:Int}{r:Unit⊕Unit}(h:vX k aV j=some r):dx (bF (aQ aT (d+1)) KK 43 anA) 2 (VO k aV j) (TV k aV j r):=by
 unfold vX at h
 exact bU nB alx h (.bd λx1 q1=>Ye (Ib (d+0) q1)<|.br 11 (λ_=>E0 [6]) λ_=>.bd λx2 q2=>Ye (Ib (d+0) q2)<|.br 16 (λ_=>E0 [6]) λ_=>E0 [0,1,2])
def vM(k:Int)(j:Int)(aV:List (List UInt8)):Option (Bool×List (List UInt8)) :=
 (vX k aV j).bind λ(x3:Unit⊕Unit)=>cond (jY x3) (some (false,aV)) ((dH aV j).bind λ(x5:List UInt8)=>(dH aV k).bind λ(x6:List UInt8)=>(dH aV k).bind λ(x7:List UInt8)=>(dH (aV.set k.toNat x5) j).bind λ(x8:List UInt8)=>some (true,((aV.set k.toNat x5).set j.toNat x6)))
def pX(k:Int)(j:Int)(aV:List (List UInt8))(r:Bool×List (List UInt8)):AV×WH:=((.bool r.1),[(some (.cells [(.acc 1 0 1 r.2.length true)] false false)),(some (.cells (mq r.2) false true))])
theorem adP(d:Nat){k:Int}{j:Int}{aV:List (List UInt8)}{r:Bool×List (List UInt8)}(h:vM k j aV=some r):Spec (aQ aT (d+2)) 21 [(.ptr (some (0,0))),(.int .i64 k),(.int .i64 j)] [(some (.cells [(.acc 1 0 1 aV.length true)] false false)),(some (.cells (mq aV) false true))] (pX k j aV r).1 (pX k j aV r).2:=by
 unfold vM at h
 exact bK nB aCk h (.sk<|.bd λx3 q3=>.ite (λhb4=>Jn [0,1,2] [none,none,none] [] [] (kI (il hb4) (K6 (d+0) q3))<|Fn Fo [] none) λhb4=>Jn [0,1,2] [none,none,none] [] [] (kI (Ai hb4) (K6 (d+0) q3))<|.bd λx5 q5=>Ia PX 32 1 q5<|Ld PX 33 false 1 0 q5 (rC x5) rfl<|.bd λx6 q6=>Ia PX 39 1 q6<|Ld PX 40 false 1 0 q6 (rC x6) rfl<|.bd λx7 q7=>Ia PX 41 1 q7<|.st (some (mq (aV.set k.toNat x5)))<|.ob (CS (o:=0) PX q7 rfl:Wq (mq aV) (0+k.toNat*1) [(rC x5)]=some (mq (aV.set k.toNat x5)))<|.bd λx8 q8=>.v 42 (.ptr (some (1,0+j.toNat*1)))<|.ob (by(try rw[show AV.list 1 aV.length (mq (aV.set k.toNat x5)) false=aiR (aV.set k.toNat x5)from by simp only[aiR,bB]]);rw[show(aV.length:Nat)=(aV.set k.toNat x5).length from by simp only[bB,aD,List.length_replicate]];exact SS PX q8:wP (.kU 1 (.c (.acc 1 0 1 aV.length true)) (.c (.int .i64 j)))=some (.ptr (some (1,0+j.toNat*1))))<|.st (some (mq ((aV.set k.toNat x5).set j.toNat x6)))<|.ob (by(try rw[show AV.list 1 aV.length (mq (aV.set k.toNat x5)) false=aiR (aV.set k.toNat x5)from by simp only[aiR,bB]]);exact CS (o:=0) PX q8 rfl:Wq (mq (aV.set k.toNat x5)) (0+j.toNat*1) [(rC x6)]=some (mq ((aV.set k.toNat x5).set j.toNat x6)))<|.zN (.fin (some false) [] none) _ (λr=>@Eq AV (.bool true) (pX k j aV r).1∧@Eq WH [(some (.cells [(.acc 1 0 1 aV.length true)] false false)),(some (.cells (mq ((aV.set k.toNat x5).set j.toNat x6)) false true))] (pX k j aV r).2) (by show _∧_;(try rw[show AV.list 1 aV.length (mq (aV.set k.toNat x5)) false=aiR (aV.set k.toNat x5)from by simp only[aiR,bB]]);(try rw[show AV.list 1 aV.length (mq ((aV.set k.toNat x5).set j.toNat x6)) false=aiR ((aV.set k.toNat x5).set j.toNat x6)from by simp only[aiR,bB]]);refine⟨?_, ?_⟩<;>first | rfl |(simp only[pX,bB,aD,List.length_replicate,bA,bN,bf,aZ,Nat.add_zero,Nat.zero_add];done) | simp[pX]))
def sZ(k:Int)(aV:List (List UInt8)):Option (aG×Bool×List (List UInt8)) :=
 (yH k aV).bind λ(x1:Bool)=>cond (!x1) (some ((⟨0,0,0,0,0,0,0,0,false,(⟨0,0,(⟨0,([]:List UInt8),([]:List UInt8),([]:List UInt8)⟩:bZ)⟩:bJ),(⟨0,([]:List UInt8)⟩:aJ),[],[],(⟨0,0,[],[]⟩:aM)⟩:aG),false,aV)) ((dH aV k).bind λ(x2:List UInt8)=>(JD x2).bind λ(x3:aG×Int)=>gd (aof k (IntKind.i64.wrap (k+1)) aV.length) (some (x3.1,true,(J3 aV k (IntKind.i64.wrap (k+1))))))
def NH(k:Int)(aV:List (List UInt8))(r:aG×Bool×List (List UInt8)):AV×WH:=((.tuple [(.agg (dI r.1)),(.bool r.2.1)]),[(some (.cells [(.acc 2 0 1 r.2.2.length true)] false false)),none,(some (.cells (mq r.2.2) false true))])
theorem Sd(d:Nat){k:Int}{aV:List (List UInt8)}{r:aG×Bool×List (List UInt8)}(h:sZ k aV=some r):Spec (aQ aT (d+14)) 22 [(.ptr (some (0,0))),(.int .i64 k)] [(some (.cells [(.acc 1 0 1 aV.length true)] false false)),(some (.cells (mq aV) false true))] (NH k aV r).1 (NH k aV r).2:=by
 unfold sZ at h
 exact bK (KG _) aCl h (.z 4 [.undef,.undef,.undef,.undef,.undef,.undef,.undef,.undef,.undef,.undef,.undef,.undef,.undef,.undef,.undef,.undef,.undef,.slice none 1 0 0 true,.slice none 5 0 0 true,.undef,.undef,.slice none 2 0 0 true,.slice none 4 0 0 true]<|.bd λx1 q1=>Ye (Ib (d+12) q1)<|.br 11 (λ_=>.z 12 [.agg [.undef,.undef,.undef,.undef,.undef,.undef,.undef,.undef,.undef,.undef,.undef,.undef,.undef,.undef,.undef,.undef,.undef,.slice none 1 0 0 true,.slice none 5 0 0 true,.undef,.undef,.slice none 2 0 0 true,.slice none 4 0 0 true]]<|.st none<|Fn Fo [.tuple [.agg [.undef,.undef,.undef,.undef,.undef,.undef,.undef,.undef,.undef,.undef,.undef,.undef,.undef,.undef,.undef,.undef,.undef,.slice none 1 0 0 true,.slice none 5 0 0 true,.undef,.undef,.slice none 2 0 0 true,.slice none 4 0 0 true],.undef]] Tw) λ_=>.bd λx2 q2=>Ia PX 19 1 q2<|Ld PX 20 false 1 0 q2 (rC x2) rfl<|.bd λx3 q3=>Cl [] Fo [] (adL (d+0) q3)<|.z 6 [.undef,.undef,.undef,.undef,.undef,.undef,.undef,.undef,.undef,.undef,.undef,.undef,.undef,.undef,.undef,.undef,.undef,.slice none 1 0 0 true,.slice none 5 0 0 true,.undef,.undef,.slice none 2 0 0 true,.slice none 4 0 0 true]<|.st none<|.gd λq4=>.ob (ala q4:(0≤k∧k<(IntKind.i64.wrap (k+1))∧(IntKind.i64.wrap (k+1))≤((aV.length:Nat):Int)))<|.ap 32 (J3 aV k (IntKind.i64.wrap (k+1))).length (mq (J3 aV k (IntKind.i64.wrap (k+1))))<|.ob (aqy (l:=aV) q4:aV.length-((IntKind.i64.wrap (k+1)).toNat-k.toNat)=(J3 aV k (IntKind.i64.wrap (k+1))).length)<|.ob (anq PX:(mq aV).take (k.toNat*1)++(mq aV).drop ((IntKind.i64.wrap (k+1)).toNat*1)=mq (J3 aV k (IntKind.i64.wrap (k+1))))<|.st none<|.st none<|Fn Fo [.tuple [.agg [.undef,.undef,.undef,.undef,.undef,.undef,.undef,.undef,.undef,.undef,.undef,.undef,.undef,.undef,.undef,.undef,.undef,.slice none 1 0 0 true,.slice none 5 0 0 true,.undef,.undef,.slice none 2 0 0 true,.slice none 4 0 0 true],.undef]] Tw)
def Gg(aV:List (List UInt8)):Option (Int) :=
 some (aV.length:Int)
def PE(aV:List (List UInt8))(r:Int):AV×WH:=((.int .i64 r),[(some (.cells [(.acc 1 0 1 aV.length true)] false false)),(some (.cells (mq aV) false true))])
theorem UL(d:Nat){aV:List (List UInt8)}{r:Int}(h:Gg aV=some r):Spec (aQ aT (d+1)) 24 [(.ptr (some (0,0)))] [(some (.cells [(.acc 1 0 1 aV.length true)] false false)),(some (.cells (mq aV) false true))] (PE aV r).1 (PE aV r).2:=by
 unfold Gg at h
 exact bK nB aCn h (Fn Fo [] none)
def vN :Option (Bool) :=
 (R9 ([(⟨1,0,1,0,0,0,0,0,false,(⟨0,0,(⟨0,([]:List UInt8),([]:List UInt8),([]:List UInt8)⟩:bZ)⟩:bJ),(⟨0,([]:List UInt8)⟩:aJ),[],[],(⟨0,0,[],[]⟩:aM)⟩:aG),(⟨2,0,0,0,0,0,0,0,false,(⟨0,0,(⟨0,([]:List UInt8),([]:List UInt8),([]:List UInt8)⟩:bZ)⟩:bJ),(⟨0,([]:List UInt8)⟩:aJ),[],[],(⟨0,0,[],[]⟩:aM)⟩:aG)])).bind λ(x1:Int×List (List UInt8))=>(sZ 0 x1.2).bind λ(x2:aG×Bool×List (List UInt8))=>cond (x1.1==2) (cond x2.2.1 (cond (x2.1.To==1) ((Gg x2.2.2).bind λ(x3:Int)=>some (x3==1)) (some false)) (some false)) (some false)
def D6(r:Bool):AV×WH:=((.bool r),[])
theorem Sg(d:Nat) {r:Bool}(h:vN=some r):Spec (aQ aT (d+15)) 23 [] [] (D6 r).1 (D6 r).2:=by
 unfold vN at h
 exact bK nB aCm h (.st none<|.z 6 [.agg [.undef,.undef,.undef,.undef,.undef,.undef,.undef,.undef,.undef,.undef,.undef,.undef,.undef,.undef,.undef,.undef,.undef,.slice none 1 0 0 true,.slice none 5 0 0 true,.undef,.undef,.slice none 2 0 0 true,.slice none 4 0 0 true]]<|.z 7 [.agg [.undef,.undef,.undef,.undef,.undef,.undef,.undef,.undef,.undef,.undef,.undef,.undef,.undef,.undef,.undef,.undef,.undef,.slice none 1 0 0 true,.slice none 5 0 0 true,.undef,.undef,.slice none 2 0 0 true,.slice none 4 0 0 true]]<|.bd λx1 q1=>Cl [] none [.undef,.slice none 23 0 0 true] (ae6 (d+1) q1)<|.bd λx2 q2=>Ye (Sd (d+0) q2)<|.z 3 [.undef,.undef,.undef,.undef,.undef,.undef,.undef,.undef,.undef,.undef,.undef,.undef,.undef,.undef,.undef,.undef,.undef,.slice none 1 0 0 true,.slice none 5 0 0 true,.undef,.undef,.slice none 2 0 0 true,.slice none 4 0 0 true]<|.st none<|.br 16 (λ_=>.br 19 (λ_=>.br 24 (λ_=>.bd λx3 q3=>Ye (UL (d+13) q3)<|Fn Fo [] none) λ_=>Fn Fo [] none) λ_=>Fn Fo [] none) λ_=>Fn Fo [] none)
def xw(aV:List (List UInt8))(s7:Int×List aG):List AV×WH:=([(.acc 2 0 23 s7.2.length true),(.acc 1 0 1 aV.length true),(.int .i64 (aV.length:Int)),(.int .i64 s7.1)],[(some (.cells [(.acc 1 0 1 aV.length true)] false false)),(some (.cells (mq aV) false true)),(some (.cells (dD s7.2) false true))])
def BU(aV:List (List UInt8)):(List aG)→Ex×Fast×WH:=λe=>((.exit 0),[(3,(.acc 2 0 23 e.length true))],[(some (.cells [(.acc 1 0 1 aV.length true)] false false)),(some (.cells (mq aV) false true)),(some (.cells (dD e) false true))])
abbrev XY(aV:List (List UInt8)):=eF [3,11,12,13] (xw aV) (BU aV)
def pY(aV:List (List UInt8))(s7:Int×List aG):Option ((Int×List aG)⊕((List aG))) :=
 cond (decide (s7.1<(aV.length:Int))) ((dH aV s7.1).bind λ(x8:List UInt8)=>(JD x8).bind λ(x9:aG×Int)=>gd (dR 280 (s7.2++[x9.1]).length) (some (.inl ((IntKind.i64.wrap (s7.1+1)),(s7.2++[x9.1]))))) (some (.inr s7.2))
def D7(aV:List (List UInt8))(s7:Int×List aG):Option ((List aG)):=dG (pY aV) KK s7
theorem Zv(d:Nat){aV:List (List UInt8)}{s7:Int×List aG}{r:(Int×List aG)⊕((List aG))}(h:pY aV s7=some r):dx (bF (aQ aT (d+13)) KK 29 aly) 2 (jM [3,11,12,13] (xw aV s7)) (XY aV r):=by
 unfold pY at h
 exact bU nB aoy h (.br 14 (λ_=>.bd λx8 q8=>Ia PX 15 1 q8<|Ld PX 16 false 1 0 q8 (rC x8) rfl<|.bd λx9 q9=>Cl [] Fo [] (adL (d+0) q9)<|.z 6 [.undef,.undef,.undef,.undef,.undef,.undef,.undef,.undef,.undef,.undef,.undef,.undef,.undef,.undef,.undef,.undef,.undef,.slice none 1 0 0 true,.slice none 5 0 0 true,.undef,.undef,.slice none 2 0 0 true,.slice none 4 0 0 true]<|.st none<|.gd λMG=>Ap fB 25 MG<|E1 [3,11,12,13] [none,none,none,none] [] [.slice none 23 0 0 true,.undef,.undef,.undef]) λ_=>E1 [3] [none] [] [.slice none 23 0 0 true])
theorem Zw(d:Nat){aV:List (List UInt8)}{s7:Int×List aG}{r:(List aG)}(h:D7 aV s7=some r):dx (fQ (bF (aQ aT (d+13)) KK 29 aly) [3,11,12,13] KK) 2 (jM [3,11,12,13] (xw aV s7)) (BU aV r) :=
 dS (st:=xw aV) (fin:=BU aV) (step:=pY aV) (λe=>by(intro h;cases h)) (λs x h=>Zv d h) KK s7 r h
def Gh(aV:List (List UInt8)):Option (List aG) :=
 (D7 aV (0,[])).bind λ(dV:(List aG))=>some dV
def PG(aV:List (List UInt8))(r:List aG):AV×WH:=((gN r),[(some (.cells [(.acc 1 0 1 aV.length true)] false false)),(some (.cells (mq aV) false true))])
theorem ae7(d:Nat){aV:List (List UInt8)}{r:List aG}(h:Gh aV=some r):Spec (aQ aT (d+14)) 25 [(.ptr (some (0,0)))] [(some (.cells [(.acc 1 0 1 aV.length true)] false false)),(some (.cells (mq aV) false true))] (PG aV r).1 (PG aV r).2:=by
 unfold Gh at h
 exact bK (KG _) aCo h (.z 2 [.slice none 23 0 0 true]<|.z 3 [.slice none 23 0 0 true]<|.bd λdV J5=>Lp [Tw,none,none,none] [] [.slice none 23 0 0 true,.undef,.undef,.undef] (Zw (d+0) J5)<|Fn Fo [.slice none 23 0 0 true] none)
def xA(a:List aG)(bS:List aG)(s4:Int):List AV×WH:=([(gN a),(gN bS),(.int .i64 s4)],[])
def BX(a:List aG)(bS:List aG):Unit⊕Unit→Ex×Fast×WH:=fun
 |.inl e=>(.ret,[(4,(.bool false))],[])
 |.inr e=>((.exit 0),[],[])
abbrev XZ(a:List aG)(bS:List aG):=eF [0,1,5] (xA a bS) (BX a bS)
def qb(a:List aG)(bS:List aG)(s4:Int):Option ((Int)⊕(Unit⊕Unit)) :=
 cond (decide (s4<(a.length:Int))) ((dH a s4).bind λ(x5:aG)=>(dH bS s4).bind λ(x6:aG)=>(EN x5 x6).bind λ(x7:Bool)=>cond (!x7) (some (.inr (.inl ()))) (some (.inl (IntKind.i64.wrap (s4+1))))) (some (.inr (.inr ())))
def D8(a:List aG)(bS:List aG)(s4:Int):Option (Unit⊕Unit):=dG (qb a bS) KK s4
theorem Zx(d:Nat){a:List aG}{bS:List aG}{s4:Int}{r:(Int)⊕(Unit⊕Unit)}(h:qb a bS s4=some r):dx (bF (aQ aT (d+2)) KK 27 alD) 0 (jM [0,1,5] (xA a bS s4)) (XZ a bS r):=by
 unfold qb at h
 exact bU nB aoD h (.br 14 (λ_=>.bd λx5 q5=>Ix fB 19 q5<|.bd λx6 q6=>Ix fB 23 q6<|.bd λx7 q7=>Cb [.agg [.undef,.undef,.undef,.undef,.undef,.undef,.undef,.undef,.undef,.undef,.undef,.undef,.undef,.undef,.undef,.undef,.undef,.slice none 1 0 0 true,.slice none 5 0 0 true,.undef,.undef,.slice none 2 0 0 true,.slice none 4 0 0 true],.agg [.undef,.undef,.undef,.undef,.undef,.undef,.undef,.undef,.undef,.undef,.undef,.undef,.undef,.undef,.undef,.undef,.undef,.slice none 1 0 0 true,.slice none 5 0 0 true,.undef,.undef,.slice none 2 0 0 true,.slice none 4 0 0 true]] (XD (d+0) q7)<|.br 26 (λ_=>E0 [4]) λ_=>E1 [0,1,5] [none,none,none] [] [.slice none 23 0 0 true,.slice none 23 0 0 true,.undef]) λ_=>E0 [])
theorem NI(d:Nat){a:List aG}{bS:List aG}{s4:Int}{r:Unit⊕Unit}(h:D8 a bS s4=some r):dx (fQ (bF (aQ aT (d+2)) KK 27 alD) [0,1,5] KK) 0 (jM [0,1,5] (xA a bS s4)) (BX a bS r) :=
 dS (st:=xA a bS) (fin:=BX a bS) (step:=qb a bS) (λe=>by rcases e with e | e<;>(intro h;cases h)) (λs x h=>Zx d h) KK s4 r h
def Gi(a:List aG)(bS:List aG):Option (Bool) :=
 cond ((a.length:Int) != (bS.length:Int)) (some false) ((D8 a bS 0).bind λ(x8:Unit⊕Unit)=>cond (jY x8) (some false) (some true))
def PI(a:List aG)(bS:List aG)(r:Bool):AV×WH:=((.bool r),[])
theorem ae8(d:Nat){a:List aG}{bS:List aG}{r:Bool}(h:Gi a bS=some r):Spec (aQ aT (d+3)) 31 [(gN a),(gN bS)] [] (PI a bS r).1 (PI a bS r).2:=by
 unfold Gi at h
 exact bK nB aCu h (.br 10 (λ_=>Fn Fo [] none) λ_=>.bd λx8 q8=>.ite (λhb9=>Lp [none,none,none] [] [.slice none 23 0 0 true,.slice none 23 0 0 true,.undef] (kI (il hb9) (NI (d+0) q8))<|Fn Fo [] none) λhb9=>Lp [none,none,none] [] [.slice none 23 0 0 true,.slice none 23 0 0 true,.undef] (kI (Ai hb9) (NI (d+0) q8))<|Fn Fo [] none)
def iH(k:Int)(aV:List aG):Option (Bool) :=
 cond (decide (k≥0)) (some (decide (k<(aV.length:Int)))) (some false)
def yI(k:Int)(aV:List aG)(r:Bool):AV×WH:=((.bool r),[(some (.cells [(.acc 1 0 23 aV.length true)] false false)),(some (.cells (dD aV) false true))])
theorem nD(d:Nat){k:Int}{aV:List aG}{r:Bool}(h:iH k aV=some r):Spec (aQ aT (d+1)) 75 [(.ptr (some (0,0))),(.int .i64 k)] [(some (.cells [(.acc 1 0 23 aV.length true)] false false)),(some (.cells (dD aV) false true))] (yI k aV r).1 (yI k aV r).2:=by
 unfold iH at h
 exact bK nB aC6 h (.br 7 (λ_=>Fn Fo [] none) λ_=>Fn Fo [] none)
def iY(k:Int)(aV:List aG):Option (aG×Bool×List aG) :=
 (iH k aV).bind λ(x1:Bool)=>cond (!x1) (some ((⟨0,0,0,0,0,0,0,0,false,(⟨0,0,(⟨0,([]:List UInt8),([]:List UInt8),([]:List UInt8)⟩:bZ)⟩:bJ),(⟨0,([]:List UInt8)⟩:aJ),[],[],(⟨0,0,[],[]⟩:aM)⟩:aG),false,aV)) ((dH aV k).bind λ(x2:aG)=>(OX aV 0 k).bind λ(x3:List aG)=>gd (dR 280 x3.length) ((OX aV (IntKind.i64.wrap (k+1)) aV.length).bind λ(x5:List aG)=>gd (dR 280 (x3++x5).length) (some (x2,true,(x3++x5)))))
def xB(k:Int)(aV:List aG)(r:aG×Bool×List aG):AV×WH:=((.tuple [(.agg (dI r.1)),(.bool r.2.1)]),[(some (.cells [(.acc 2 0 23 r.2.2.length true)] false false)),none,(some (.cells (dD r.2.2) false true))])
theorem Kl(d:Nat){k:Int}{aV:List aG}{r:aG×Bool×List aG}(h:iY k aV=some r):Spec (aQ aT (d+2)) 26 [(.ptr (some (0,0))),(.int .i64 k)] [(some (.cells [(.acc 1 0 23 aV.length true)] false false)),(some (.cells (dD aV) false true))] (xB k aV r).1 (xB k aV r).2:=by
 unfold iY at h
 exact bK nB aCp h (.z 4 [.undef,.undef,.undef,.undef,.undef,.undef,.undef,.undef,.undef,.undef,.undef,.undef,.undef,.undef,.undef,.undef,.undef,.slice none 1 0 0 true,.slice none 5 0 0 true,.undef,.undef,.slice none 2 0 0 true,.slice none 4 0 0 true]<|.bd λx1 q1=>Ye (nD (d+0) q1)<|.br 10 (λ_=>.z 11 [.agg [.undef,.undef,.undef,.undef,.undef,.undef,.undef,.undef,.undef,.undef,.undef,.undef,.undef,.undef,.undef,.undef,.undef,.slice none 1 0 0 true,.slice none 5 0 0 true,.undef,.undef,.slice none 2 0 0 true,.slice none 4 0 0 true]]<|.st none<|Fn Fo [.tuple [.agg [.undef,.undef,.undef,.undef,.undef,.undef,.undef,.undef,.undef,.undef,.undef,.undef,.undef,.undef,.undef,.undef,.undef,.slice none 1 0 0 true,.slice none 5 0 0 true,.undef,.undef,.slice none 2 0 0 true,.slice none 4 0 0 true],.undef]] Tw) λ_=>.bd λx2 q2=>Ia fB 17 1 q2<|Ld fB 18 true 23 0 q2 (.agg (dI x2)) rfl<|.z 6 [.undef,.undef,.undef,.undef,.undef,.undef,.undef,.undef,.undef,.undef,.undef,.undef,.undef,.undef,.undef,.undef,.undef,.slice none 1 0 0 true,.slice none 5 0 0 true,.undef,.undef,.slice none 2 0 0 true,.slice none 4 0 0 true]<|.st none<|.bd λx3 q3=>.v 26 (.acc 1 0 23 x3.length false)<|.ob (acu fB q3:wP (.slice 23 (.c (.acc 1 0 23 aV.length true)) none (some (.c (.int .i64 k))) none)=some (.acc 1 0 23 x3.length false))<|.gd λq4=>.ap 27 x3.length (dD x3)<|.ob (by(try rw[nG fB q3]);(try rw[kg fB q3]);simp:0+x3.length=x3.length)<|.ob (by(try rw[nG fB q3]);(try rw[kg fB q3]);first | rfl | simp[dD]:dD []++((dD aV).drop (0)).take (x3.length*23)=dD x3)<|.ob q4<|.bd λx5 q5=>.v 34 (.acc 1 (0+(IntKind.i64.wrap (k+1)).toNat*23) 23 x5.length false)<|.ob (by(try rw[nG fB q3]);(try rw[kg fB q3]);exact acs fB q5:wP (.slice 23 (.c (.acc 1 0 23 aV.length true)) (some (.c (.int .i64 (IntKind.i64.wrap (k+1))))) none none)=some (.acc 1 (0+(IntKind.i64.wrap (k+1)).toNat*23) 23 x5.length false))<|.gd λq6=>.ap 35 (x3++x5).length (dD (x3++x5))<|.ob (by(try rw[nG fB q3]);(try rw[kg fB q3]);(try rw[ME fB q5]);exact abL _ _:x3.length+x5.length=(x3++x5).length)<|.ob (by(try rw[nG fB q3]);(try rw[kg fB q3]);(try rw[ME fB q5]);exact(Row.app fB _ _).symm:dD x3++((dD aV).drop (0+(IntKind.i64.wrap (k+1)).toNat*23)).take (x5.length*23)=dD (x3++x5))<|.ob q6<|.st none<|.st none<|.kl [1]<|Fn Fo [.tuple [.agg [.undef,.undef,.undef,.undef,.undef,.undef,.undef,.undef,.undef,.undef,.undef,.undef,.undef,.undef,.undef,.undef,.undef,.slice none 1 0 0 true,.slice none 5 0 0 true,.undef,.undef,.slice none 2 0 0 true,.slice none 4 0 0 true],.undef]] Tw)
abbrev OD(k:Int)(aV:List (List UInt8)):Fast×WH:=([(0,(.ptr (some (0,0)))),(1,(.int .i64 k))],[(some (.cells [(.acc 1 0 1 aV.length true)] false false)),(some (.cells (mq aV) false true))])
def NJ(k:Int)(aV:List (List UInt8)):Unit⊕Unit→Ex×Fast×WH:=fun
 |.inl e=>(.ret,[(4,(.bool false))],[(some (.cells [(.acc 1 0 1 aV.length true)] false false)),(some (.cells (mq aV) false true))])
 |.inr e=>(.normal,[(0,(.ptr (some (0,0)))),(1,(.int .i64 k))],[(some (.cells [(.acc 1 0 1 aV.length true)] false false)),(some (.cells (mq aV) false true))])
def lW(k:Int)(aV:List (List UInt8)):Option (Unit⊕Unit) :=
 (yH k aV).bind λ(x1:Bool)=>cond (!x1) (some (.inl ())) (cond ((aV.length:Int)==60) (some (.inl ())) (some (.inr ())))
theorem Eu(d:Nat){k:Int}{aV:List (List UInt8)}{r:Unit⊕Unit}(h:lW k aV=some r):dx (bF (aQ aT (d+1)) KK 33 anB) 2 (OD k aV) (NJ k aV r):=by
 unfold lW at h
 exact bU nB alz h (.bd λx1 q1=>Ye (Ib (d+0) q1)<|.br 9 (λ_=>E0 [4]) λ_=>.br 16 (λ_=>E0 [4]) λ_=>E0 [0,1])
def jT(k:Int)(aV:List (List UInt8)):Option (Bool×List (List UInt8)) :=
 (lW k aV).bind λ(x2:Unit⊕Unit)=>cond (jY x2) (some (false,aV)) ((dH aV k).bind λ(x4:List UInt8)=>gd (dR 24 (aV++[x4]).length) (some (true,(aV++[x4]))))
def Gj(k:Int)(aV:List (List UInt8))(r:Bool×List (List UInt8)):AV×WH:=((.bool r.1),[(some (.cells [(.acc 2 0 1 r.2.length true)] false false)),none,(some (.cells (mq r.2) false true))])
theorem VP(d:Nat){k:Int}{aV:List (List UInt8)}{r:Bool×List (List UInt8)}(h:jT k aV=some r):Spec (aQ aT (d+2)) 27 [(.ptr (some (0,0))),(.int .i64 k)] [(some (.cells [(.acc 1 0 1 aV.length true)] false false)),(some (.cells (mq aV) false true))] (Gj k aV r).1 (Gj k aV r).2:=by
 unfold jT at h
 exact bK nB aCq h (.sk<|.bd λx2 q2=>.ite (λhb3=>Jn [0,1] [none,none] [] [] (kI (il hb3) (Eu (d+0) q2))<|Fn Fo [] Tw) λhb3=>Jn [0,1] [none,none] [] [] (kI (Ai hb3) (Eu (d+0) q2))<|.bd λx4 q4=>Ia PX 27 1 q4<|Ld PX 28 false 1 0 q4 (rC x4) rfl<|.gd λq5=>Ap PX 30 q5<|.st none<|Fn Fo [] Tw)
abbrev GU(Bb:Int×Int×List aG)(l:List aG):Fast×WH:=([(0,(.ptr (some (0,0)))),(1,(gN l)),(5,(.int .i64 Bb.1)),(6,(.int .i64 Bb.2.1))],[(some (.cells [(.acc 2 0 23 Bb.2.2.length true)] false false)),none,(some (.cells (dD Bb.2.2) false true))])
def Gl(Bb:Int×Int×List aG)(l:List aG):Bool→Ex×Fast×WH:=λe=>(.normal,[(0,(.ptr (some (0,0)))),(1,(gN l)),(5,(.int .i64 Bb.1)),(6,(.int .i64 Bb.2.1)),(27,(.bool e))],[(some (.cells [(.acc 2 0 23 Bb.2.2.length true)] false false)),none,(some (.cells (dD Bb.2.2) false true))])
def mh(Bb:Int×Int×List aG)(l:List aG):Option (Bool) :=
 cond (decide ((Bb.2.2.length:Int)<60)) ((dH l Bb.2.1).bind λ(x18:aG)=>(uN x18).bind λ(qj:Bool)=>some qj) (some false)
theorem Ic(d:Nat){Bb:Int×Int×List aG}{l:List aG}{r:Bool}(h:mh Bb l=some r):dx (bF (aQ aT (d+7)) KK 52 O4) 2 (GU Bb l) (Gl Bb l r):=by
 unfold mh at h
 exact bU nB Va h (.br 21 (λ_=>.bd λx18 YM=>Ix fB 24 YM<|.bd λqj Uq=>Cb [.agg [.undef,.undef,.undef,.undef,.undef,.undef,.undef,.undef,.undef,.undef,.undef,.undef,.undef,.undef,.undef,.undef,.undef,.slice none 1 0 0 true,.slice none 5 0 0 true,.undef,.undef,.slice none 2 0 0 true,.slice none 4 0 0 true]] (LV (d+0) Uq)<|E1 [0,1,5,6,27] [none,none,none,none,none] [] [.undef,.slice none 23 0 0 true,.undef,.undef,.undef]) λ_=>E1 [0,1,5,6,27] [none,none,none,none,none] [] [.undef,.slice none 23 0 0 true,.undef,.undef,.undef])
def kM(l:List aG)(Bb:Int×Int×List aG):List AV×WH:=([(.ptr (some (0,0))),(gN l),(.int .i64 Bb.1),(.int .i64 Bb.2.1)],[(some (.cells [(.acc 2 0 23 Bb.2.2.length true)] false false)),none,(some (.cells (dD Bb.2.2) false true))])
def nL(l:List aG):(Int×List aG)→Ex×Fast×WH:=λe=>((.exit 0),[(5,(.int .i64 e.1))],[(some (.cells [(.acc 2 0 23 e.2.length true)] false false)),none,(some (.cells (dD e.2) false true))])
abbrev GV(l:List aG):=eF [0,1,5,6] (kM l) (nL l)
def iN(l:List aG)(Bb:Int×Int×List aG):Option ((Int×Int×List aG)⊕((Int×List aG))) :=
 cond (decide (Bb.2.1<(l.length:Int))) ((mh Bb l).bind λ(x20:Bool)=>cond x20 ((dH l Bb.2.1).bind λ(x21:aG)=>(Nl x21).bind λ(I9:List UInt8)=>(ER I9).bind λ(x23:aG×Int)=>gd (dR 280 Bb.2.2.length) (gd (dR 280 (Bb.2.2++[x23.1]).length) (some (.inl ((IntKind.i64.wrap (Bb.1+1)),(IntKind.i64.wrap (Bb.2.1+1)),(Bb.2.2++[x23.1])))))) (some (.inl (Bb.1,(IntKind.i64.wrap (Bb.2.1+1)),Bb.2.2)))) (some (.inr (Bb.1,Bb.2.2)))
def mo(l:List aG)(Bb:Int×Int×List aG):Option ((Int×List aG)):=dG (iN l) KK Bb
theorem Ie(d:Nat){l:List aG}{Bb:Int×Int×List aG}{r:(Int×Int×List aG)⊕((Int×List aG))}(h:iN l Bb=some r):dx (bF (aQ aT (d+8)) KK 52 alC) 2 (jM [0,1,5,6] (kM l Bb)) (GV l r):=by
 unfold iN at h
 exact bU nB aoB h (.br 12 (λ_=>.sk<|.bd λx20 q20=>Jn [0,1,5,6] [none,none,none,none] [] [.undef,.slice none 23 0 0 true,.undef,.undef] (Ic (d+1) q20)<|.br 27 (λ_=>.bd λx21 q21=>Ix fB 31 q21<|.bd λI9 q22=>Cl [] Fo [.agg [.undef,.undef,.undef,.undef,.undef,.undef,.undef,.undef,.undef,.undef,.undef,.undef,.undef,.undef,.undef,.undef,.undef,.slice none 1 0 0 true,.slice none 5 0 0 true,.undef,.undef,.slice none 2 0 0 true,.slice none 4 0 0 true]] (aj3 (d+0) q22)<|.bd λx23 q23=>Cl [] Fo [] (ahP (d+0) q23)<|.z 7 [.undef,.undef,.undef,.undef,.undef,.undef,.undef,.undef,.undef,.undef,.undef,.undef,.undef,.undef,.undef,.undef,.undef,.slice none 1 0 0 true,.slice none 5 0 0 true,.undef,.undef,.slice none 2 0 0 true,.slice none 4 0 0 true]<|.st none<|.gd λq24=>Ap0 fB 43 q24<|.gd λq25=>Ap fB 46 q25<|.st none<|E1 [0,1,5,6] [none,none,none,none] [] [.undef,.slice none 23 0 0 true,.undef,.undef]) λ_=>E1 [0,1,5,6] [none,none,none,none] [] [.undef,.slice none 23 0 0 true,.undef,.undef]) λ_=>E0 [5])
theorem Ig(d:Nat){l:List aG}{Bb:Int×Int×List aG}{r:(Int×List aG)}(h:mo l Bb=some r):dx (fQ (bF (aQ aT (d+8)) KK 52 alC) [0,1,5,6] KK) 2 (jM [0,1,5,6] (kM l Bb)) (nL l r) :=
 dS (st:=kM l) (fin:=nL l) (step:=iN l) (λe=>by(intro h;cases h)) (λs x h=>Ie d h) KK Bb r h
def jU(l:List aG)(aV:List aG):Option (Int×List aG) :=
 (mo l (0,0,aV)).bind λ(jL:(Int×List aG))=>some (jL.1,jL.2)
def yJ(l:List aG)(aV:List aG)(r:Int×List aG):AV×WH:=((.int .i64 r.1),[(some (.cells [(.acc 2 0 23 r.2.length true)] false false)),none,(some (.cells (dD r.2) false true))])
theorem AQ(d:Nat){l:List aG}{aV:List aG}{r:Int×List aG}(h:jU l aV=some r):Spec (aQ aT (d+9)) 30 [(.ptr (some (0,0))),(gN l)] [(some (.cells [(.acc 1 0 23 aV.length true)] false false)),(some (.cells (dD aV) false true))] (yJ l aV r).1 (yJ l aV r).2:=by
 unfold jU at h
 exact bK nB aCt h (.bd λjL q26=>Lp [none,none,none,none] [Tw,Tw,Tw] [.undef,.slice none 23 0 0 true,.undef,.undef] (Ig (d+0) q26)<|Fn Fo [] none)
def fV(k:Int)(aV:List aG):Option (Bool×List aG) :=
 (iH k aV).bind λ(x1:Bool)=>cond x1 ((dH aV k).bind λ(x2:aG)=>(jU [x2] aV).bind λ(x3:Int×List aG)=>some ((x3.1==1),x3.2)) (some (false,aV))
def uQ(k:Int)(aV:List aG)(r:Bool×List aG):AV×WH:=((.bool r.1),[(some (.cells [(.acc 2 0 23 r.2.length true)] false false)),none,(some (.cells (dD r.2) false true))])
theorem Ih(d:Nat){k:Int}{aV:List aG}{r:Bool×List aG}(h:fV k aV=some r):Spec (aQ aT (d+10)) 28 [(.ptr (some (0,0))),(.int .i64 k)] [(some (.cells [(.acc 1 0 23 aV.length true)] false false)),(some (.cells (dD aV) false true))] (uQ k aV r).1 (uQ k aV r).2:=by
 unfold fV at h
 exact bK nB aCr h (.bd λx1 q1=>Ye (nD (d+8) q1)<|.br 8 (λ_=>.bd λx2 q2=>Ia fB 15 1 q2<|Ld fB 16 true 23 0 q2 (.agg (dI x2)) rfl<|.bd λx3 q3=>Cl [] none [.undef,.slice none 23 0 0 true] (AQ (d+0) q3)<|Fn Fo [] Tw) λ_=>Fn Fo [] Tw)
abbrev Gm(k:Int)(aV:List aG)(j:Int):Fast×WH:=([(0,(.ptr (some (0,0)))),(1,(.int .i64 k)),(2,(.int .i64 j))],[(some (.cells [(.acc 1 0 23 aV.length true)] false false)),(some (.cells (dD aV) false true))])
def ES(k:Int)(aV:List aG)(j:Int):Unit⊕Unit→Ex×Fast×WH:=fun
 |.inl e=>(.ret,[(6,(.bool false))],[(some (.cells [(.acc 1 0 23 aV.length true)] false false)),(some (.cells (dD aV) false true))])
 |.inr e=>(.normal,[(0,(.ptr (some (0,0)))),(1,(.int .i64 k)),(2,(.int .i64 j))],[(some (.cells [(.acc 1 0 23 aV.length true)] false false)),(some (.cells (dD aV) false true))])
def jI(k:Int)(aV:List aG)(j:Int):Option (Unit⊕Unit) :=
 (iH k aV).bind λ(x1:Bool)=>cond (!x1) (some (.inl ())) ((iH j aV).bind λ(x2:Bool)=>cond (!x2) (some (.inl ())) (some (.inr ())))
theorem vY(d:Nat){k:Int}{aV:List aG}{j:Int}{r:Unit⊕Unit}(h:jI k aV j=some r):dx (bF (aQ aT (d+1)) KK 48 anC) 2 (Gm k aV j) (ES k aV j r):=by
 unfold jI at h
 exact bU nB alA h (.bd λx1 q1=>Ye (nD (d+0) q1)<|.br 12 (λ_=>E0 [6]) λ_=>.bd λx2 q2=>Ye (nD (d+0) q2)<|.br 17 (λ_=>E0 [6]) λ_=>E0 [0,1,2])
def iZ(k:Int)(j:Int)(aV:List aG):Option (Bool×List aG) :=
 (jI k aV j).bind λ(x3:Unit⊕Unit)=>cond (jY x3) (some (false,aV)) (gd (dR 280 aV.length) ((dH aV j).bind λ(x6:aG)=>(dH aV k).bind λ(x7:aG)=>(dH aV k).bind λ(x8:aG)=>(dH (aV.set k.toNat x6) j).bind λ(x9:aG)=>some (true,((aV.set k.toNat x6).set j.toNat x8))))
def iO(k:Int)(j:Int)(aV:List aG)(r:Bool×List aG):AV×WH:=((.bool r.1),[(some (.cells [(.acc 2 0 23 r.2.length true)] false false)),none,(some (.cells (dD r.2) false true))])
theorem Km(d:Nat){k:Int}{j:Int}{aV:List aG}{r:Bool×List aG}(h:iZ k j aV=some r):Spec (aQ aT (d+2)) 29 [(.ptr (some (0,0))),(.int .i64 k),(.int .i64 j)] [(some (.cells [(.acc 1 0 23 aV.length true)] false false)),(some (.cells (dD aV) false true))] (iO k j aV r).1 (iO k j aV r).2:=by
 unfold iZ at h
 exact bK nB aCs h (.sk<|.bd λx3 q3=>.ite (λhb4=>Jn [0,1,2] [none,none,none] [] [] (kI (il hb4) (vY (d+0) q3))<|Fn Fo [] Tw) λhb4=>Jn [0,1,2] [none,none,none] [] [] (kI (Ai hb4) (vY (d+0) q3))<|.gd λq5=>Ap0 fB 23 q5<|.bd λx6 q6=>Ia fB 31 1 q6<|Ld fB 32 true 23 0 q6 (.agg (dI x6)) rfl<|.bd λx7 q7=>Ia fB 33 3 q7<|.st (some (dD (aV.set k.toNat x6)))<|.ob (CS (o:=0) fB q7 rfl:Wq (dD aV) (0+k.toNat*23) [(.int .i64 x6.Kind),(.int .i64 x6.From),(.int .i64 x6.To),(.int .i64 x6.fJ),(.int .i64 x6.Epoch),(.int .i64 x6.Weight),(.int .i64 x6.Load),(.int .i64 x6.ou),(.bool x6.fq),(.int .i64 x6.Ef.Client),(.int .i64 x6.Ef.Seq),(.int .i64 x6.Ef.Op.Kind),(.str x6.Ef.Op.Key),(.str x6.Ef.Op.Value),(.str x6.Ef.Op.Old),(.int .i64 x6.Answer.Why),(.str x6.Answer.Value),(Lg x6.Path),(fK x6.Table),(.int .i64 x6.qg.fJ),(.int .i64 x6.qg.Epoch),(dA x6.qg.Pairs),(dY x6.qg.fu)]=some (dD (aV.set k.toNat x6)))<|.bd λx8 q8=>.v 41 (.ptr (some (1,0+k.toNat*23)))<|.ob (by(try rw[show AV.list 23 aV.length (dD (aV.set k.toNat x6)) false=gN (aV.set k.toNat x6)from by simp only[gN,bB]]);exact SS fB q8:wP (.kU 23 (.c (.acc 1 0 23 aV.length true)) (.c (.int .i64 k)))=some (.ptr (some (1,0+k.toNat*23))))<|.v 42 (.agg (dI x8))<|.ob (by(try rw[show AV.list 23 aV.length (dD (aV.set k.toNat x6)) false=gN (aV.set k.toNat x6)from by simp only[gN,bB]]);exact ak8 (o:=0) fB q8 rfl:CJ true (0+k.toNat*23) 23 (dD aV)=some (.agg (dI x8)))<|.bd λx9 q9=>.v 43 (.ptr (some (3,0+j.toNat*23)))<|.ob (by(try rw[show AV.list 23 aV.length (dD (aV.set k.toNat x6)) false=gN (aV.set k.toNat x6)from by simp only[gN,bB]]);rw[show(aV.length:Nat)=(aV.set k.toNat x6).length from by simp only[bB,aD,List.length_replicate]];exact SS fB q9:wP (.kU 23 (.c (.acc 3 0 23 aV.length true)) (.c (.int .i64 j)))=some (.ptr (some (3,0+j.toNat*23))))<|.st (some (dD ((aV.set k.toNat x6).set j.toNat x8)))<|.ob (by(try rw[show AV.list 23 aV.length (dD (aV.set k.toNat x6)) false=gN (aV.set k.toNat x6)from by simp only[gN,bB]]);exact CS (o:=0) fB q9 rfl:Wq (dD (aV.set k.toNat x6)) (0+j.toNat*23) [(.int .i64 x8.Kind),(.int .i64 x8.From),(.int .i64 x8.To),(.int .i64 x8.fJ),(.int .i64 x8.Epoch),(.int .i64 x8.Weight),(.int .i64 x8.Load),(.int .i64 x8.ou),(.bool x8.fq),(.int .i64 x8.Ef.Client),(.int .i64 x8.Ef.Seq),(.int .i64 x8.Ef.Op.Kind),(.str x8.Ef.Op.Key),(.str x8.Ef.Op.Value),(.str x8.Ef.Op.Old),(.int .i64 x8.Answer.Why),(.str x8.Answer.Value),(Lg x8.Path),(fK x8.Table),(.int .i64 x8.qg.fJ),(.int .i64 x8.qg.Epoch),(dA x8.qg.Pairs),(dY x8.qg.fu)]=some (dD ((aV.set k.toNat x6).set j.toNat x8)))<|.st none<|.kl [1]<|.zN (.fin (some false) [] (some true)) _ (λr=>@Eq AV (.bool true) (iO k j aV r).1∧@Eq WH [(some (.cells [(.acc 2 0 23 aV.length true)] false false)),none,(some (.cells (dD ((aV.set k.toNat x6).set j.toNat x8)) false true))] (iO k j aV r).2) (by show _∧_;(try rw[show AV.list 23 aV.length (dD (aV.set k.toNat x6)) false=gN (aV.set k.toNat x6)from by simp only[gN,bB]]);(try rw[show AV.list 23 aV.length (dD ((aV.set k.toNat x6).set j.toNat x8)) false=gN ((aV.set k.toNat x6).set j.toNat x8)from by simp only[gN,bB]]);refine⟨?_, ?_⟩<;>first | rfl |(simp only[iO,bB,aD,List.length_replicate,bA,bN,bf,aZ,Nat.add_zero,Nat.zero_add];done) | simp[iO]))
abbrev Ii(Qj:Int×List aG)(J2:bI)(calls:List bI)(qH:Int×List (List UInt8)×List aG):Fast×WH:=([(3,(.ptr (some (0,0)))),(4,(.ptr (some (1,0)))),(6,(.ptr (some (2,0)))),(13,(.acc 3 0 23 Qj.2.length true)),(14,(.int .i64 Qj.1)),(17,(iJ calls)),(18,(.int .i64 (calls.length:Int))),(19,(.int .i64 qH.1))],[(some (.cells [(.acc 4 0 1 qH.2.1.length true)] false false)),(some (.cells [(.acc 5 0 23 qH.2.2.length true)] false false)),(some (.cells (jE J2) false false)),(some (.cells (dD Qj.2) false true)),(some (.cells (mq qH.2.1) false true)),(some (.cells (dD qH.2.2) false true))])
def GX(Qj:Int×List aG)(J2:bI)(calls:List bI)(qH:Int×List (List UInt8)×List aG):Unit⊕Unit→Ex×Fast×WH:=fun
 |.inl e=>(.normal,[(3,(.ptr (some (0,0)))),(4,(.ptr (some (1,0)))),(6,(.ptr (some (2,0)))),(13,(.acc 3 0 23 Qj.2.length true)),(14,(.int .i64 Qj.1)),(17,(iJ calls)),(18,(.int .i64 (calls.length:Int))),(19,(.int .i64 qH.1))],[(some (.cells [(.acc 4 0 1 qH.2.1.length true)] false false)),(some (.cells [(.acc 5 0 23 qH.2.2.length true)] false false)),(some (.cells (jE J2) false false)),(some (.cells (dD Qj.2) false true)),(some (.cells (mq qH.2.1) false true)),(some (.cells (dD qH.2.2) false true))])
 |.inr e=>((.exit 3),[(3,(.ptr (some (0,0)))),(4,(.ptr (some (1,0)))),(13,(.acc 2 0 23 Qj.2.length true)),(17,(iJ calls)),(18,(.int .i64 (calls.length:Int))),(19,(.int .i64 qH.1))],[(some (.cells [(.acc 3 0 1 qH.2.1.length true)] false false)),(some (.cells [(.acc 4 0 23 qH.2.2.length true)] false false)),(some (.cells (dD Qj.2) false true)),(some (.cells (mq qH.2.1) false true)),(some (.cells (dD qH.2.2) false true))])
def nE(Qj:Int×List aG)(J2:bI)(calls:List bI)(qH:Int×List (List UInt8)×List aG):Option (Unit⊕Unit) :=
 cond (decide (Qj.1<(J2.L.length:Int))) (cond (decide (Qj.1<5)) (some (.inl ())) (some (.inr ()))) (some (.inr ()))
theorem yK(d:Nat){Qj:Int×List aG}{J2:bI}{calls:List bI}{qH:Int×List (List UInt8)×List aG}{r:Unit⊕Unit}(h:nE Qj J2 calls qH=some r):dx (bF (aQ aT (d+0)) KK 118 rJ) 0 (Ii Qj J2 calls qH) (GX Qj J2 calls qH r):=by
 unfold nE at h
 exact bU nB zV h (.br 47 (λ_=>.br 50 (λ_=>E1 [3,4,6,13,14,17,18,19] [none,none,none,none,none,none,none,none] [] [.undef,.undef,.undef,.slice none 23 0 0 true,.undef,.slice none 4 0 0 true,.undef,.undef]) λ_=>E1 [3,4,13,17,18,19] [none,none,none,none,none,none] [] [.undef,.undef,.slice none 23 0 0 true,.slice none 4 0 0 true,.undef,.undef]) λ_=>E1 [3,4,13,17,18,19] [none,none,none,none,none,none] [] [.undef,.undef,.slice none 23 0 0 true,.slice none 4 0 0 true,.undef,.undef])
def lg(J2:bI)(calls:List bI)(qH:Int×List (List UInt8)×List aG)(Qj:Int×List aG):List AV×WH:=([(.ptr (some (0,0))),(.ptr (some (1,0))),(.ptr (some (2,0))),(.acc 3 0 23 Qj.2.length true),(.int .i64 Qj.1),(iJ calls),(.int .i64 (calls.length:Int)),(.int .i64 qH.1)],[(some (.cells [(.acc 4 0 1 qH.2.1.length true)] false false)),(some (.cells [(.acc 5 0 23 qH.2.2.length true)] false false)),(some (.cells (jE J2) false false)),(some (.cells (dD Qj.2) false true)),(some (.cells (mq qH.2.1) false true)),(some (.cells (dD qH.2.2) false true))])
def n_(J2:bI)(calls:List bI)(qH:Int×List (List UInt8)×List aG):(List aG)→Ex×Fast×WH:=λe=>((.exit 3),[(3,(.ptr (some (0,0)))),(4,(.ptr (some (1,0)))),(13,(.acc 2 0 23 e.length true)),(17,(iJ calls)),(18,(.int .i64 (calls.length:Int))),(19,(.int .i64 qH.1))],[(some (.cells [(.acc 3 0 1 qH.2.1.length true)] false false)),(some (.cells [(.acc 4 0 23 qH.2.2.length true)] false false)),(some (.cells (dD e) false true)),(some (.cells (mq qH.2.1) false true)),(some (.cells (dD qH.2.2) false true))])
abbrev Ij(J2:bI)(calls:List bI)(qH:Int×List (List UInt8)×List aG):=eF [3,4,6,13,14,17,18,19] (lg J2 calls qH) (n_ J2 calls qH)
def jJ(J2:bI)(calls:List bI)(qH:Int×List (List UInt8)×List aG)(Qj:Int×List aG):Option ((Int×List aG)⊕((List aG))) :=
 (nE Qj J2 calls qH).bind λ(x94:Unit⊕Unit)=>cond (jY x94) ((dH J2.L Qj.1).bind λ(x96:dh)=>(adg x96 5).bind λ(x97:aG)=>gd (dR 280 (Qj.2++[x97]).length) (some (.inl ((IntKind.i64.wrap (Qj.1+1)),(Qj.2++[x97]))))) (some (.inr Qj.2))
def tK(J2:bI)(calls:List bI)(qH:Int×List (List UInt8)×List aG)(Qj:Int×List aG):Option ((List aG)):=dG (jJ J2 calls qH) KK Qj
theorem JK(d:Nat){J2:bI}{calls:List bI}{qH:Int×List (List UInt8)×List aG}{Qj:Int×List aG}{r:(Int×List aG)⊕((List aG))}(h:jJ J2 calls qH Qj=some r):dx (bF (aQ aT (d+6)) KK 118 aqL) 0 (jM [3,4,6,13,14,17,18,19] (lg J2 calls qH Qj)) (Ij J2 calls qH r):=by
 unfold jJ at h
 exact bU nB aqM h (.bd λx94 q94=>.ite (λazJ=>Jn [3,4,6,13,14,17,18,19] [none,none,none,none,none,none,none,none] [] [.undef,.undef,.undef,.slice none 23 0 0 true,.undef,.slice none 4 0 0 true,.undef,.undef] (kI (il azJ) (yK (d+6) q94))<|.bd λx96 q96=>Ix Z4 57 q96<|.bd λx97 q97=>Cl [] Fo [.agg [.undef,.undef,.undef,.undef,.undef,.undef,.undef,.undef,.undef,.undef,.undef,.undef,.undef,.undef,.undef,.undef,.undef,.undef,.undef,.slice none 1 0 0 true,.slice none 5 0 0 true,.slice none 8 0 0 true]] (atO (d+0) q97)<|.gd λq98=>Ap fB 61 q98<|E1 [3,4,6,13,14,17,18,19] [none,none,none,none,none,none,none,none] [] [.undef,.undef,.undef,.slice none 23 0 0 true,.undef,.slice none 4 0 0 true,.undef,.undef]) λazJ=>Jn [3,4,6,13,14,17,18,19] [none,none,none,none,none,none,none,none] [] [.undef,.undef,.undef,.slice none 23 0 0 true,.undef,.slice none 4 0 0 true,.undef,.undef] (kI (Ai azJ) (yK (d+6) q94))<|E1 [3,4,13,17,18,19] [none,none,none,none,none,none] [] [.undef,.undef,.slice none 23 0 0 true,.slice none 4 0 0 true,.undef,.undef])
theorem JL(d:Nat){J2:bI}{calls:List bI}{qH:Int×List (List UInt8)×List aG}{Qj:Int×List aG}{r:(List aG)}(h:tK J2 calls qH Qj=some r):dx (fQ (bF (aQ aT (d+6)) KK 118 aqL) [3,4,6,13,14,17,18,19] KK) 0 (jM [3,4,6,13,14,17,18,19] (lg J2 calls qH Qj)) (n_ J2 calls qH r) :=
 dS (st:=lg J2 calls qH) (fin:=n_ J2 calls qH) (step:=jJ J2 calls qH) (λe=>by(intro h;cases h)) (λs x h=>JK d h) KK Qj r h
abbrev Ik(J2:bI)(x73:Int)(qH:Int×List (List UInt8)×List aG)(x74:Int)(calls:List bI):Fast×WH:=([(3,(.ptr (some (0,0)))),(4,(.ptr (some (1,0)))),(6,(.ptr (some (2,0)))),(7,(.int .i64 (IntKind.i64.wrap (x73-1)))),(8,(.int .i64 (IntKind.i64.wrap (x74-1)))),(17,(iJ calls)),(18,(.int .i64 (calls.length:Int))),(19,(.int .i64 qH.1))],[(some (.cells [(.acc 3 0 1 qH.2.1.length true)] false false)),(some (.cells [(.acc 4 0 23 qH.2.2.length true)] false false)),(some (.cells (jE J2) false false)),(some (.cells (mq qH.2.1) false true)),(some (.cells (dD qH.2.2) false true))])
def GY(J2:bI)(x73:Int)(qH:Int×List (List UInt8)×List aG)(x74:Int)(calls:List bI):Unit⊕(List (List UInt8)×List aG)→Ex×Fast×WH:=fun
 |.inl e=>(.ret,[(2,(.bool false))],[])
 |.inr e=>(.normal,[(3,(.ptr (some (0,0)))),(4,(.ptr (some (1,0)))),(17,(iJ calls)),(18,(.int .i64 (calls.length:Int))),(19,(.int .i64 qH.1))],[(some (.cells [(.acc 2 0 1 e.1.length true)] false false)),(some (.cells [(.acc 3 0 23 e.2.length true)] false false)),(some (.cells (mq e.1) false true)),(some (.cells (dD e.2) false true))])
def kG(J2:bI)(x73:Int)(qH:Int×List (List UInt8)×List aG)(x74:Int)(calls:List bI):Option (Unit⊕(List (List UInt8)×List aG)) :=
 (b_ J2.What 6).bind λ(x75:Int)=>cond (x75==0) ((sZ (IntKind.i64.wrap (x73-1)) qH.2.1).bind λ(x76:aG×Bool×List (List UInt8))=>(iY (IntKind.i64.wrap (x73-1)) qH.2.2).bind λ(x77:aG×Bool×List aG)=>cond (!(x76.2.1==x77.2.1)) (some (.inl ())) ((EN x76.1 x77.1).bind λ(x78:Bool)=>cond (!x78) (some (.inl ())) (some (.inr (x76.2.2,x77.2.2))))) (cond (x75==1) ((jT (IntKind.i64.wrap (x73-1)) qH.2.1).bind λ(x79:Bool×List (List UInt8))=>(fV (IntKind.i64.wrap (x73-1)) qH.2.2).bind λ(x80:Bool×List aG)=>cond (!(x79.1==x80.1)) (some (.inl ())) (some (.inr (x79.2,x80.2)))) (cond (x75==2) ((vM (IntKind.i64.wrap (x73-1)) (IntKind.i64.wrap (x74-1)) qH.2.1).bind λ(x81:Bool×List (List UInt8))=>(iZ (IntKind.i64.wrap (x73-1)) (IntKind.i64.wrap (x74-1)) qH.2.2).bind λ(x82:Bool×List aG)=>cond (!(x81.1==x82.1)) (some (.inl ())) (some (.inr (x81.2,x82.2)))) ((tK J2 calls qH (0,[])).bind λ(x99:(List aG))=>(AP x99 qH.2.1).bind λ(x100:Int×List (List UInt8))=>(jU x99 qH.2.2).bind λ(x101:Int×List aG)=>cond (x100.1 != x101.1) (some (.inl ())) (some (.inr (x100.2,x101.2))))))
theorem yL(d:Nat){J2:bI}{x73:Int}{qH:Int×List (List UInt8)×List aG}{x74:Int}{calls:List bI}{r:Unit⊕(List (List UInt8)×List aG)}(h:kG J2 x73 qH x74 calls=some r):dx (bF (aQ aT (d+14)) KK 118 G7) 0 (Ik J2 x73 qH x74 calls) (GY J2 x73 qH x74 calls r):=by
 unfold kG at h
 exact bU nB Og h (.bd λx75 q75=>jw (dw (d+13) q75)<|.br 67 (λ_=>.bd λx76 q76=>Ye (Sd (d+0) q76)<|.z 9 [.undef,.undef,.undef,.undef,.undef,.undef,.undef,.undef,.undef,.undef,.undef,.undef,.undef,.undef,.undef,.undef,.undef,.slice none 1 0 0 true,.slice none 5 0 0 true,.undef,.undef,.slice none 2 0 0 true,.slice none 4 0 0 true]<|.st none<|.bd λx77 q77=>Ye (Kl (d+12) q77)<|.z 11 [.undef,.undef,.undef,.undef,.undef,.undef,.undef,.undef,.undef,.undef,.undef,.undef,.undef,.undef,.undef,.undef,.undef,.slice none 1 0 0 true,.slice none 5 0 0 true,.undef,.undef,.slice none 2 0 0 true,.slice none 4 0 0 true]<|.st none<|.br 82 (λ_=>E0 [2]) λ_=>.bd λx78 q78=>Cb [.agg [.undef,.undef,.undef,.undef,.undef,.undef,.undef,.undef,.undef,.undef,.undef,.undef,.undef,.undef,.undef,.undef,.undef,.slice none 1 0 0 true,.slice none 5 0 0 true,.undef,.undef,.slice none 2 0 0 true,.slice none 4 0 0 true],.agg [.undef,.undef,.undef,.undef,.undef,.undef,.undef,.undef,.undef,.undef,.undef,.undef,.undef,.undef,.undef,.undef,.undef,.slice none 1 0 0 true,.slice none 5 0 0 true,.undef,.undef,.slice none 2 0 0 true,.slice none 4 0 0 true]] (XD (d+12) q78)<|.br 87 (λ_=>E0 [2]) λ_=>E1 [3,4,17,18,19] [none,none,none,none,none] [] [.undef,.undef,.slice none 4 0 0 true,.undef,.undef]) λ_=>.br 88 (λ_=>.bd λx79 q79=>Ye (VP (d+12) q79)<|.bd λx80 q80=>Ye (Ih (d+4) q80)<|.br 94 (λ_=>E0 [2]) λ_=>E1 [3,4,17,18,19] [none,none,none,none,none] [] [.undef,.undef,.slice none 4 0 0 true,.undef,.undef]) λ_=>.br 95 (λ_=>.bd λx81 q81=>Ye (adP (d+12) q81)<|.bd λx82 q82=>Ye (Km (d+12) q82)<|.br 103 (λ_=>E0 [2]) λ_=>E1 [3,4,17,18,19] [none,none,none,none,none] [] [.undef,.undef,.slice none 4 0 0 true,.undef,.undef]) λ_=>.z 13 [.slice none 23 0 0 true]<|.bd λx99 q99=>Lp [none,none,none,Tw,none,none,none,none] [] [.undef,.undef,.undef,.slice none 23 0 0 true,.undef,.slice none 4 0 0 true,.undef,.undef] (JL (d+8) q99)<|.bd λx100 aDs=>Cl [] none [.undef,.slice none 23 0 0 true] (abn (d+1) aDs)<|.bd λx101 aDt=>Cl [] none [.undef,.slice none 23 0 0 true] (AQ (d+5) aDt)<|.br 66 (λ_=>E0 [2]) λ_=>E1 [3,4,17,18,19] [none,none,none,none,none] [] [.undef,.undef,.slice none 4 0 0 true,.undef,.undef])
def lq(calls:List bI)(qH:Int×List (List UInt8)×List aG):List AV×WH:=([(.ptr (some (0,0))),(.ptr (some (1,0))),(iJ calls),(.int .i64 (calls.length:Int)),(.int .i64 qH.1)],[(some (.cells [(.acc 2 0 1 qH.2.1.length true)] false false)),(some (.cells [(.acc 3 0 23 qH.2.2.length true)] false false)),(some (.cells (mq qH.2.1) false true)),(some (.cells (dD qH.2.2) false true))])
def og(calls:List bI):Unit⊕Unit→Ex×Fast×WH:=fun
 |.inl e=>(.ret,[(2,(.bool false))],[])
 |.inr e=>((.exit 0),[],[])
abbrev Il(calls:List bI):=eF [3,4,17,18,19] (lq calls) (og calls)
def jK(calls:List bI)(qH:Int×List (List UInt8)×List aG):Option ((Int×List (List UInt8)×List aG)⊕(Unit⊕Unit)) :=
 cond (decide (qH.1<(calls.length:Int))) ((dH calls qH.1).bind λ(J2:bI)=>(b_ J2.A (IntKind.i64.wrap ((qH.2.2.length:Int)+3))).bind λ(x73:Int)=>(b_ J2.B (IntKind.i64.wrap ((qH.2.2.length:Int)+3))).bind λ(x74:Int)=>(kG J2 x73 qH x74 calls).bind λ(x102:Unit⊕(List (List UInt8)×List aG))=>cond (jY x102) (some (.inr (.inl ()))) ((Gg (Ob x102).1).bind λ(x104:Int)=>cond (x104 != ((Ob x102).2.length:Int)) (some (.inr (.inl ()))) ((Gh (Ob x102).1).bind λ(x105:List aG)=>(Gi x105 (Ob x102).2).bind λ(aBA:Bool)=>cond (!aBA) (some (.inr (.inl ()))) (some (.inl ((IntKind.i64.wrap (qH.1+1)),(Ob x102).1,(Ob x102).2)))))) (some (.inr (.inr ())))
def tL(calls:List bI)(qH:Int×List (List UInt8)×List aG):Option (Unit⊕Unit):=dG (jK calls) KK qH
theorem JM(d:Nat){calls:List bI}{qH:Int×List (List UInt8)×List aG}{r:(Int×List (List UInt8)×List aG)⊕(Unit⊕Unit)}(h:jK calls qH=some r):dx (bF (aQ aT (d+14)) KK 118 aqJ) 0 (jM [3,4,17,18,19] (lq calls qH)) (Il calls r):=by
 unfold jK at h
 exact bU nB aqK h (.br 20 (λ_=>.bd λJ2 q72=>Ix IY 21 q72<|.z 6 [.undef,.undef,.undef,.slice none 22 0 0 true]<|.st none<|.bd λx73 q73=>jw (dw (d+13) q73)<|.bd λx74 q74=>jw (dw (d+13) q74)<|.bd λx102 aBB=>.ite (λatP=>Jn [3,4,6,7,8,17,18,19] [none,none,none,none,none,none,none,none] [] [.undef,.undef,.undef,.undef,.undef,.slice none 4 0 0 true,.undef,.undef] (kI (il atP) (yL (d+0) aBB))<|E0 [2]) λatP=>Jn [3,4,6,7,8,17,18,19] [none,none,none,none,none,none,none,none] [] [.undef,.undef,.undef,.undef,.undef,.slice none 4 0 0 true,.undef,.undef] (kI (Ai atP) (yL (d+0) aBB))<|.bd λx104 aDu=>Ye (UL (d+13) aDu)<|.br 109 (λ_=>E0 [2]) λ_=>.bd λx105 aDv=>Ye (ae7 (d+0) aDv)<|.bd λaBA aDw=>Cb [.slice none 23 0 0 true,.slice none 23 0 0 true] (ae8 (d+11) aDw)<|.br 115 (λ_=>E0 [2]) λ_=>E1 [3,4,17,18,19] [none,none,none,none,none] [] [.undef,.undef,.slice none 4 0 0 true,.undef,.undef]) λ_=>E0 [])
theorem yM(d:Nat){calls:List bI}{qH:Int×List (List UInt8)×List aG}{r:Unit⊕Unit}(h:tL calls qH=some r):dx (fQ (bF (aQ aT (d+14)) KK 118 aqJ) [3,4,17,18,19] KK) 0 (jM [3,4,17,18,19] (lq calls qH)) (og calls r) :=
 dS (st:=lq calls) (fin:=og calls) (step:=jK calls) (λe=>by rcases e with e | e<;>(intro h;cases h)) (λs x h=>JM d h) KK qH r h
def qZ(calls:List bI):Option (Bool) :=
 (tL calls (0,[],[])).bind λ(x107:Unit⊕Unit)=>cond (jY x107) (some false) ((vN).bind λ(aBC:Bool)=>some aBC)
def zS(calls:List bI)(r:Bool):AV×WH:=((.bool r),[])
theorem NK(d:Nat){calls:List bI}{r:Bool}(h:qZ calls=some r):Spec (aQ aT (d+16)) 7 [(iJ calls)] [] (zS calls r).1 (zS calls r).2:=by
 unfold qZ at h
 exact bK nB AF7 h (.st none<|.z 16 [.agg [.slice none 23 0 0 true]]<|.z 4 [.slice none 23 0 0 true]<|.st none<|.bd λx107 aBD=>.ite (λatQ=>Lp [none,none,none,none,none] [Tw,Tw,Tw,Tw] [.undef,.undef,.slice none 4 0 0 true,.undef,.undef] (kI (il atQ) (yM (d+1) aBD))<|Fn Fo [] none) λatQ=>Lp [none,none,none,none,none] [Tw,Tw,Tw,Tw] [.undef,.undef,.slice none 4 0 0 true,.undef,.undef] (kI (Ai atQ) (yM (d+1) aBD))<|.bd λaBC aDx=>jw (Sg (d+0) aDx)<|Fn Fo [] none)
theorem aj8 (n:List Int) (s10:Int×List UInt8):∀(k x:Nat) (s:List UInt8),x<9223372036854775808→(rD x).length≤k→s.length+k<1000000000000 →
  ∃(y:Nat) (s':List UInt8),(∀j,k≤j→dG (nA n s10) j ((x:Int),s)=some ((y:Int),s'))∧y<128∧s'++[UInt8.ofNat y]=s++rD x∧s'.length+1≤s.length+k
 | 0,x,s,_,h,_=>by have:=QE x;omega
 | k+1,x,s,hx,h,hs=>by
  by_cases c:x<128
  ·refine⟨x,s,λj hj=>?_,c,by rw[xS c],by omega⟩
   obtain⟨j,rfl⟩:∃i,j=i+1:=⟨j-1,by omega⟩
   have e:nA n s10 ((x:Int),s)=some (.inr ((x:Int),s)):=by
    unfold nA
    rw[bD (by simp only;omega),cond_false]
   simp only[dG,e]
  ·have hl:(rD (x/128)).length≤k:=by rw[I4 c]at h;simpa using h
   obtain⟨y,s',h1,h2,h3,h4⟩:=aj8 n s10 k (x/128) (s++[UInt8.ofNat (x%128+128)]) (by omega) hl (by simp;omega)
   refine⟨y,s',λj hj=>?_,h2,by rw[h3,afJ x c],by simp at h4;omega⟩
   obtain⟨j,rfl⟩:∃i,j=i+1:=⟨j-1,by omega⟩
   have e:nA n s10 ((x:Int),s)=some (.inl (((x/128:Nat):Int),s++[UInt8.ofNat (x%128+128)])):=by
    unfold nA
    rw[bO (by simp only;omega),cond_true]
    simp only[aqD hx,aB4]
    rw[qh (by simp;omega)]
   simp only[dG,e]
   exact h1 j (by omega)
theorem r_(b:List UInt8)(l:List Int)(h:b.length+10*l.length<1000000000):oH b l=some (Uh b l):=by
 unfold oH
 rw[qh (by omega)]
 have key:∃e,RD l (0,b)=some e∧e=(if l.all Oe then .inr (b++encI l)else .inl ()):=by
  refine kV (λ(s:Int×List UInt8)=>l.length-s.1.toNat) (λ(s:Int×List UInt8)=>∃i:Nat,s.1=(i:Int)∧i≤l.length∧(∀x∈l.take i,Oe x=true)∧s.2=b++encI (l.take i)) _ ?_ KK (0,b) ⟨0,rfl,by omega,by simp,by simp[encI]⟩ (by have:=kP;simp only;omega)
  rintro⟨j,s⟩ ⟨i,rfl,h1,h2,rfl⟩
  have hle:=ag3 _ h2
  rw[bf]at hle
  simp only[AB]
  by_cases hi:i<l.length
  ·rw[bO (by omega),cond_true,dU hi,ak]
   by_cases hx:Oe l[i]=true
   ·left
    have hx':=hx
    simp only[Oe,decide_eq_true_eq]at hx'
    have e0:∀s,yB l[i] s l=some (.inr ()):=λs=>by
     unfold yB
     rw[bD (by omega),cond_false,bD (by omega),cond_false]
    obtain⟨x,hxe⟩:∃x:Nat,l[i]=x:=⟨l[i].toNat,by omega⟩
    have h9:=MF (x:=x) (by omega)
    obtain⟨y,s',q1,q2,q3,q4⟩:=aj8 l ((i:Int),b++encI (l.take i)) 9 x (b++encI (l.take i)) (by omega) h9 (by simp;omega)
    have q1':=q1 KK (by decide)
    rw[e0,ak,hxe]
    simp only[jY,cond_false,RB,q1',ak]
    have q5:s'++[Gq (y:Int)]=b++encI (l.take (i+1)):=by
     rw[abM (by omega),q3,bG hi,afH,hxe]
     simp
    rw[qh (by simp at q4 ⊢;omega),q5]
    refine⟨_,rfl,⟨i+1,by rw[cu (by omega) (by omega)];simp,by omega, ?_,rfl⟩,by rw[cu (by omega) (by omega)];omega⟩
    rw[bG hi]
    intro y hy
    rcases List.mem_append.1 hy with hy | hy
    ·exact h2 y hy
    ·rw[List.mem_singleton.1 hy];exact hx
   ·right
    rw[if_neg (by simp[aiW l hi (by simpa using hx)])]
    have e0:yB l[i] ((i:Int),b++encI (l.take i)) l=some (.inl ()):=by
     unfold yB
     simp only[Oe,decide_eq_true_eq]at hx
     by_cases c:l[i]<0
     ·rw[bO c,cond_true]
     ·rw[bD c,cond_false,bO (by omega),cond_true]
    rw[e0,ak]
    exact⟨_,rfl,rfl⟩
  ·right
   rw[bD (by omega),cond_false]
   rw[List.take_of_length_le (by omega)]at h2 ⊢
   rw[if_pos (List.all_eq_true.2 h2)]
   exact⟨_,rfl,rfl⟩
 obtain⟨e,e1,e2⟩:=key
 rw[e1,ak,e2]
 unfold Uh
 split<;>rfl
theorem amE(c:UInt8):F4 c=some (decide (c.toNat<128)):=by
 unfold F4
 rw[aok]
def atI:Option Nat→Int
 | some i=>i
 | none=>-1
theorem aj9(b:List UInt8)(h:b.length<1000000000000):jG b=some (atI (iX b)):=by
 unfold jG
 have key:∃x,nK b 0=some x∧(match iX b with
   | some i=>x=.inl (i:Int)
   | none=>x=.inr ()):=by
  refine kV (λs:Int=>b.length-s.toNat) (λs=>∃i:Nat,s=(i:Int)∧i≤b.length∧∀j (h:j<i) (h':j<b.length),¬(b[j]).toNat<128) _ ?_ KK 0 ⟨0,rfl,by omega,λj h=>by omega⟩ (by have:=kP;simp;omega)
  rintro s ⟨i,rfl,h1,h2⟩
  simp only[iQ]
  by_cases hi:i<b.length
  ·rw[bO (by omega),cond_true,dU hi,ak,amE,ak]
   by_cases hc:(b[i]).toNat<128
   ·right
    refine⟨.inl (i:Int),by rw[decide_eq_true hc,cond_true], ?_⟩
    rw[FH b i h1 h2,List.drop_eq_getElem_cons hi,iX,if_pos hc]
    simp
   ·left
    rw[bD hc,cond_false,cu (by omega) (by omega)]
    refine⟨_,rfl,⟨i+1,by omega,by omega,λj hj hj'=>?_⟩,by omega⟩
    rcases Nat.lt_or_ge j i with q | q
    ·exact h2 j q hj'
    ·have:j=i:=by omega
     subst this
     exact hc
  ·right
   refine⟨.inr (),by rw[bD (by omega),cond_false], ?_⟩
   rw[FH b i h1 h2,List.drop_of_length_le (by omega)]
   simp[iX]
 obtain⟨x,e1,e2⟩:=key
 rw[e1,ak]
 cases he:iX b with
 | some i =>
  rw[he]at e2
  simp only at e2
  subst e2
  rfl
 | none =>
  rw[he]at e2
  simp only at e2
  subst e2
  rfl
theorem ahQ(b:List UInt8)(i:Nat)(hi:i<b.length)(h9:i<9):H9 b (i:Int) (0,(i:Int))=some ((valOf (b.take (i+1)):Nat):Int):=by
 have key:∃x,H9 b (i:Int) (0,(i:Int))=some x∧x=((valOf (b.take (i+1)):Nat):Int):=by
  refine kV (λs:Int×Int=>(s.2+1).toNat) (λs=>∃k:Nat,k≤i+1∧s.2=(k:Int)-1∧s.1=((valOf ((b.take (i+1)).drop k):Nat):Int)) _ ?_ KK (0,(i:Int)) ⟨i+1,by omega,by simp,by rw[List.drop_of_length_le (by simp;omega)];simp[valOf]⟩ (by have:=kP;simp only;omega)
  rintro⟨v,j⟩ ⟨k,h1,h2,h3⟩
  simp only at h2 h3
  subst h2 h3
  simp only[yF]
  cases k with
  | zero =>
   right
   exact⟨_,by rw[bD (by omega),cond_false],by simp⟩
  | succ k =>
   left
   have hk:k<b.length:=by omega
   have e:((k+1:Nat):Int)-1=(k:Int):=by omega
   rw[e,bO (by omega),cond_true,dU hk,ak]
   have hl:((b.take (i+1)).drop (k+1)).length≤8:=by simp;omega
   have hv:=WI ((b.take (i+1)).drop (k+1))
   have hv8:valOf ((b.take (i+1)).drop (k+1))<72057594037927936:=Nat.lt_of_lt_of_le hv (by
    have:=Nat.pow_le_pow_right (n:=128) (by omega) hl
    simpa using this)
   have hd:(b.take (i+1)).drop k=b[k]::(b.take (i+1)).drop (k+1):=by
    rw[List.drop_eq_getElem_cons (by simp;omega)]
    simp
   refine⟨_,rfl,⟨k,by omega, ?_, ?_⟩, ?_⟩
   ·simp only
    rw[cu (by omega) (by omega)]
   ·simp only
    rw[aqF,cu (by omega) (by omega),azs _ _ hv8 (by omega),hd]
    rfl
   ·simp only
    rw[cu (by omega) (by omega)]
    omega
 obtain⟨x,e1,e2⟩:=key
 rw[e1,e2]
theorem VQ(b:List UInt8)(h:b.length<1000000000000):EP b=some (l6 b):=by
 unfold EP l6
 rw[aj9 b h,ak]
 cases he:iX b with
 | none=>rfl
 | some i =>
  have hi:=SV he
  show _=some (xU b i)
  unfold xU
  have ea:atI (some i)=(i:Int):=rfl
  rw[ea,bD (by omega),cond_false]
  have j0:DR (i:Int) b=some (if 9≤i∨(0<i∧b[i]?=some 0)then .inl ()else .inr ()):=by
   unfold DR
   by_cases h9:9≤i
   ·rw[bO (by omega),cond_true,if_pos (.inl h9)]
   ·rw[bD (by omega),cond_false]
    by_cases h0:0<i
    ·rw[bO (by omega),cond_true,aiV,bQ hi,ak]
     by_cases hz:b[i]=0
     ·rw[if_pos (.inr ⟨h0,by rw[hz]⟩),hz]
      rfl
     ·rw [if_neg (by
       rintro(q |⟨_,q⟩)
       ·omega
       ·exact hz (av q))]
      rw[vR (by
       intro e
       exact hz (UInt8.toNat_inj.1 (by simp;omega))),cond_false]
    ·rw [bD (by omega),cond_false,if_neg (by
      rintro(q |⟨q,_⟩)<;>omega)]
  rw[j0,ak]
  by_cases hc:9≤i∨(0<i∧b[i]?=some 0)
  ·rw[if_pos hc,if_pos hc]
   rfl
  ·rw[if_neg hc,if_neg hc]
   simp only[jY,cond_false]
   have h9:i<9:=by
    rcases Nat.lt_or_ge i 9 with q | q
    ·exact q
    ·exact absurd (.inl q) hc
   rw[ahQ b i hi h9,ak]
   unfold H_
   rw[bD (by omega),cond_false]
   by_cases hv:4611686018427387903<valOf (b.take (i+1))
   ·rw[bO (by omega),cond_true,if_pos hv]
    rfl
   ·rw[bD (by omega),cond_false,if_neg hv,ak]
    simp only[jY,cond_false]
    rw[cu (by omega) (by omega)]
    rfl
theorem amF(b:List UInt8)(h:b.length<1000000000000):Iy b=some (I5 b):=by
 unfold Iy I5
 rw[VQ b h,ak]
 have hle:=aoj b
 generalize l6 b=t at *
 obtain⟨v,k,e⟩:=t
 simp only at hle ⊢
 by_cases he:e=0
 ·subst he
  simp only[bne_self_eq_false,cond_false,if_true]
  obtain⟨n,rfl⟩:∃n:Nat,k=n:=⟨k.toNat,by omega⟩
  rw[um b n (by omega),ak]
  unfold F5
  rw[qh (by simp;omega),ak]
  simp
 ·rw[oz he,cond_true,if_neg he]
abbrev Pr(α:Type):=List UInt8→Int⊕(α×List UInt8)
structure Fmt{α:Type}(enc:α→List UInt8)(p:Pr α)(ok:α→Prop):Prop where
 back:∀x,ok x→∀r,p (enc x++r)=.inr (x,r)
 cut:∀x,ok x→∀k,k<(enc x).length→p ((enc x).take k)=.inl 3
theorem Fmt.inj{α:Type}{enc:α→List UInt8}{p:Pr α}{ok:α→Prop}(h:Fmt enc p ok){x y:α}(hx:ok x)(hy:ok y){r s:List UInt8}(e:enc x++r=enc y++s):x=y∧r=s:=by
 have h1:=h.back x hx r
 rw[e,h.back y hy s]at h1
 have:=Prod.mk.inj (Sum.inr.inj h1)
 exact⟨this.1.symm,this.2.symm⟩
def Shr{α:Type}(p:Pr α):Prop:=∀b x r,p b=.inr (x,r)→r.length≤b.length
def Err{α:Type}(p:Pr α):Prop:=∀b e,p b=.inl e→e=2∨e=3
def gG:Pr Int:=λb=>match l6 b with
 |(v,k,e)=>if e=0 then .inr (v,b.drop k.toNat)else .inl e
def uR(x:Int):Prop:=0≤x∧x≤4611686018427387903
instance (x:Int):Decidable (uR x):=by unfold uR;infer_instance
def eN(x:Int):List UInt8:=rD x.toNat
theorem UM:Fmt eN gG uR:=by
 constructor
 ·intro x hx r
  unfold gG eN
  rw[U7 x.toNat (by unfold uR at hx;omega) r]
  simp only[if_true,bL,List.drop_left]
  rw[Int.toNat_of_nonneg hx.1]
 ·intro x hx k hk
  unfold gG
  have:=acB x.toNat k hk []
  rw[List.append_nil]at this
  unfold eN
  rw[this]
  rfl
theorem h_:Shr gG:=by
 intro b x r h
 unfold gG at h
 rcases mX b with e | e |⟨v,k,e,_⟩<;>rw[e]at h<;>simp at h
 obtain⟨_,rfl⟩:=h
 simp
theorem gQ:Err gG:=by
 intro b x h
 unfold gG at h
 rcases mX b with e | e |⟨v,k,e,_⟩<;>rw[e]at h<;>simp at h
 ·exact .inr h.symm
 ·exact .inl h.symm
theorem atS{b r:List UInt8}{x:Int}(h:gG b=.inr (x,r)):uR x:=by
 unfold gG at h
 rcases mX b with e | e |⟨v,k,e,h1,_⟩<;>rw[e]at h<;>simp at h
 obtain⟨rfl,_⟩:=h
 exact⟨by omega,by omega⟩
def j5:Pr (List UInt8):=λb=>match l6 b with
 |(v,k,e)=>if e=0 then (if v.toNat≤b.length-k.toNat then .inr ((b.drop k.toNat).take v.toNat,b.drop (k.toNat+v.toNat))else .inl 3)else .inl e
def okS(s:List UInt8):Prop:=s.length≤4611686018427387903
def eT(s:List UInt8):List UInt8:=rD s.length++s
theorem amG:Fmt eT j5 okS:=by
 constructor
 ·intro s hs r
  unfold j5 eT
  rw[bR,U7 s.length hs (s++r)]
  simp only[if_true,bL,List.drop_left]
  rw[if_pos (by simp)]
  rw[←List.drop_drop,List.drop_left,List.take_left,List.drop_left]
 ·intro s hs k hk
  unfold j5 eT at *
  by_cases c:k<(rD s.length).length
  ·rw[acB s.length k c s]
   rfl
  ·have e:(rD s.length++s).take k=rD s.length++s.take (k-(rD s.length).length):=by
    rw[List.take_append,List.take_of_length_le (by omega)]
   rw[e,U7 s.length hs]
   simp only[if_true,bL]
   rw[aD]at hk
   rw[if_neg]
   simp only[aD,bf]
   omega
theorem AU:Shr j5:=by
 intro b x r h
 unfold j5 at h
 rcases mX b with e | e |⟨v,k,e,_⟩<;>rw[e]at h<;>simp at h
 split at h
 ·obtain⟨_,rfl⟩:=Prod.mk.inj (Sum.inr.inj h)
  simp
 ·cases h
theorem uF:Err j5:=by
 intro b x h
 unfold j5 at h
 rcases mX b with e | e |⟨v,k,e,_⟩<;>rw[e]at h<;>simp at h
 ·exact .inr h.symm
 ·exact .inl h.symm
 ·split at h
  ·cases h
  ·exact .inr (Sum.inl.inj h).symm
section
variable {α β:Type} {enc:α→List UInt8} {p:Pr α} {ok:α→Prop}
def cZ(p:Pr α)(q:α→Pr β):Pr β:=λb=>match p b with
 |.inl e=>.inl e
 |.inr (x,r)=>q x r
theorem yN{q:α→Pr β}{b:List UInt8}{e:Int}(h:p b=.inl e):cZ p q b=.inl e:=by unfold cZ;rw[h]
theorem wR{q:α→Pr β}{b r:List UInt8}{x:α}(h:p b=.inr (x,r)):cZ p q b=q x r:=by unfold cZ;rw[h]
theorem ru{q:α→Pr β}(hp:Shr p)(hq:∀x,Shr (q x)):Shr (cZ p q):=by
 intro b x r h
 unfold cZ at h
 split at h
 ·cases h
 ·rename_i y s e
  have:=hp _ _ _ e
  have:=hq _ _ _ _ h
  omega
theorem jV{q:α→Pr β}(hp:Err p)(hq:∀x,Err (q x)):Err (cZ p q):=by
 intro b x h
 unfold cZ at h
 split at h
 ·rename_i e' e
  rw[←Sum.inl.inj h]
  exact hp _ _ e
 ·exact hq _ _ _ h
def Lays(p:Pr α)(x:α)(e:List UInt8):Prop:=(∀r,p (e++r)=.inr (x,r))∧∀k,k<e.length→p (e.take k)=.inl 3
theorem Fmt.lays(h:Fmt enc p ok){x:α}(hx:ok x):Lays p x (enc x):=⟨h.back x hx,h.cut x hx⟩
theorem Lays.nil(x:α):Lays (λb=>.inr (x,b)) x []:=⟨λ_=>rfl,λk h=>by simp at h⟩
theorem Lays.seq{q:α→Pr β}{x:α}{y:β}{e f:List UInt8}(h:Lays p x e)(g:Lays (q x) y f):Lays (cZ p q) y (e++f):=by
 refine⟨λr=>?_,λk hk=>?_⟩
 ·rw[bR,wR (h.1 (f++r)),g.1]
 ·by_cases c:k<e.length
  ·rw[List.take_append_of_le_length (by omega)]
   exact yN (h.2 k c)
  ·rw[List.take_append,List.take_of_length_le (by omega),wR (h.1 _)]
   exact g.2 _ (by rw[aD]at hk;omega)
theorem Lays.last{q:α→Pr β}{x:α}{y:β}{e:List UInt8}(h:Lays p x e)(g:∀r,q x r=.inr (y,r)):Lays (cZ p q) y e:=by
 refine⟨λr=>?_,λk hk=>yN (h.2 k hk)⟩
 rw[wR (h.1 r),g]
theorem Lays.inj{x y:α}{e f r s:List UInt8}(h:Lays p x e)(g:Lays p y f)(q:e++r=f++s):x=y∧r=s:=by
 have h1:=h.1 r
 rw[q,g.1 s]at h1
 have:=Prod.mk.inj (Sum.inr.inj h1)
 exact⟨this.1.symm,this.2.symm⟩
def fU(p:Pr α):Nat→Pr (List α)
 | 0=>λb=>.inr ([],b)
 | n+1=>cZ p λx=>cZ (fU p n) λl b=>.inr (x::l,b)
theorem rz(hp:Shr p):∀n,Shr (fU p n)
 | 0=>λb x r h=>by
  simp only[fU,Sum.inr.injEq,aS]at h
  rw[h.2]
  exact Nat.le_refl _
 | n+1=>ru hp λx=>ru (rz hp n) λl b y r h=>by
  simp only[Sum.inr.injEq,aS]at h
  rw[h.2]
  exact Nat.le_refl _
theorem j6(hp:Err p):∀n,Err (fU p n)
 | 0=>λb e h=>by simp[fU]at h
 | n+1=>jV hp λx=>jV (j6 hp n) λl b e h=>by simp at h
theorem Bj:∀ {n:Nat} {b r:List UInt8} {l:List α},fU p n b=.inr (l,r)→l.length=n
 | 0,b,r,l,h=>by
  simp only[fU,Sum.inr.injEq,aS]at h
  rw[←h.1]
  rfl
 | n+1,b,r,l,h=>by
  simp only[fU,cZ]at h
  split at h
  ·cases h
  ·split at h
   ·cases h
   ·rename_i e
    simp only[Sum.inr.injEq,aS]at h
    rw[←h.1,bA,Bj e]
theorem Lays.rep(l:List α)(h:∀x∈l,Lays p x (enc x)):Lays (fU p l.length) l (l.flatMap enc):=by
 induction l with
 | nil=>exact .nil []
 | cons x l ih =>
  rw[List.flatMap_cons]
  exact(h x (by simp)).seq ((ih λy hy=>h y (by simp[hy])).last λr=>rfl)
def xH(c:α→Bool)(x:α):Pr α:=λb=>if c x then .inr (x,b)else .inl 2
theorem ahR(c:α→Bool)(x:α):Shr (xH c x):=by
 intro b y r h
 unfold xH at h
 split at h
 ·simp only[Sum.inr.injEq,aS]at h
  rw[h.2]
  exact Nat.le_refl _
 ·cases h
theorem ahS(c:α→Bool)(x:α):Err (xH c x):=by
 intro b e h
 unfold xH at h
 split at h
 ·cases h
 ·exact .inl (Sum.inl.inj h).symm
theorem akb {S E:Type} (n:Nat) (hn:n<1000000000000) (f:S→Option (S⊕E)) (st:Nat→List UInt8→List α→S) (err:List UInt8→Int→E) (done:List UInt8→List α→E) (m:Nat) (hp:Shr p)
  (h1:∀(i:Nat) (b:List UInt8) (acc:List α),i<n→b.length≤m→acc.length=i→f (st i b acc)=match p b with
   |.inl e=>some (.inr (err b e))
   |.inr (x,r)=>some (.inl (st (i+1) r (acc++[x]))))
  (h2:∀(b:List UInt8) (acc:List α),acc.length=n→f (st n b acc)=some (.inr (done b acc))) :
  ∀(j:Nat) (k:Nat) (b:List UInt8) (acc:List α),j≤n→b.length≤m→acc.length=n-j→j<k→∃c,dG f k (st (n-j) b acc)=some (match fU p j b with
   |.inl e=>err c e
   |.inr (l,r)=>done r (acc++l))
 | 0,k,b,acc,_,_,ha,hk=>by
  obtain⟨k,rfl⟩:∃i,k=i+1:=⟨k-1,by omega⟩
  refine⟨b, ?_⟩
  simp only[dG,Nat.sub_zero,h2 b acc ha,fU,List.append_nil]
 | j+1,k,b,acc,hj,hb,ha,hk=>by
  obtain⟨k,rfl⟩:∃i,k=i+1:=⟨k-1,by omega⟩
  have e:=h1 (n-(j+1)) b acc (by omega) hb ha
  simp only[dG,e]
  cases hx:p b with
  | inl er =>
   refine⟨b, ?_⟩
   simp only[fU,cZ,hx]
  | inr y =>
   obtain⟨x,r⟩:=y
   have hs:=hp _ _ _ hx
   obtain⟨c,ih⟩:=akb n hn f st err done m hp h1 h2 j k r (acc++[x]) (by omega) (by omega) (by simp;omega) (by omega)
   refine⟨c, ?_⟩
   simp only
   rw[show n-(j+1)+1=n-j by omega,ih]
   simp only[fU,cZ,hx]
   cases fU p j r with
   | inl e=>rfl
   | inr y=>simp
end
theorem aDy(b:List UInt8)(l:List Int)(h:b.length+10*l.length<1000000000):Jw b l=some (Uh b l):=r_ b l h
theorem kH(b:List UInt8){l:List Int}(h:∀x∈l,uR x):Uh b l=b++l.flatMap eN:=by
 unfold Uh
 rw[if_pos (List.all_eq_true.2 λx hx=>by have:=h x hx;simp[Oe];exact this)]
 rfl
theorem Zy(s:List UInt8)(h:okS s):(eT s).length≤s.length+9:=by
 have:=MF h
 unfold eT
 rw[aD]
 omega
theorem akc(l:List (List UInt8))(i:Nat):((l.take i).flatMap eT).length≤(l.flatMap eT).length:=by
 rw[←List.take_append_drop i l,List.flatMap_append,aD,List.take_append_drop]
 omega
theorem apa (b:List UInt8) (l:List (List UInt8)) (h:b.length+(l.flatMap eT).length<900000000) (hl:l.length<1000000000) (f:Int×List UInt8→Option ((Int×List UInt8)⊕(List UInt8)))
  (hf:∀s5,f s5=cond (decide (s5.1<(l.length:Int))) ((dH l s5.1).bind λ(x6:List UInt8)=>(Jw s5.2 ([(x6.length:Int)])).bind λ(x7:List UInt8)=>gd (dR 1 (x7++x6).length) (some (.inl ((IntKind.i64.wrap (s5.1+1)),(x7++x6))))) (some (.inr s5.2))) :
  dG f KK (0,b)=some (b++l.flatMap eT):=by
 have e0:((0:Int),b)=(((0:Nat):Int),b++(l.take 0).flatMap eT):=by simp
 rw[e0]
 refine lI (λi=>((i:Int),b++(l.take i).flatMap eT)) l.length _ (λi hi=>?_) ?_ (by omega)
 ·have h5:(l.take (i+1)).flatMap eT=(l.take i).flatMap eT++eT l[i]:=by
   rw[bG hi,List.flatMap_append]
   simp
  have h6:=akc l (i+1)
  rw[h5,aD]at h6
  have h7:(eT l[i]).length=(rD l[i].length).length+l[i].length:=by unfold eT;rw[aD]
  rw[hf]
  simp only
  rw[bO (by omega),cond_true,dU hi,ak,aDy _ _ (by simp only[aD,List.length_singleton];omega),ak,afI _ (by omega),
   qh (by simp only[aD];omega),cu (by omega) (by omega),dF,h5]
  unfold eT
  simp only[bR]
 ·rw[hf]
  simp only
  rw[bD (by omega),cond_false,List.take_length]
theorem VT(b:List UInt8)(l:List (List UInt8))(h:b.length+(l.flatMap eT).length<900000000)(hl:l.length<1000000000):EM b l=some (b++l.flatMap eT):=by
 unfold EM Ov
 rw[qh (by omega),apa b l h hl (yC l) (λ_=>rfl)]
 rfl
theorem Sj (b:List UInt8) (n:Nat) (hb:b.length<900000000) (hn:n<1000000):BM b (n:Int)=some (match fU gG n b with
  |.inl e=>([],[],e)
  |.inr (l,r)=>(l,r,0)):=by
 have key:∀(j:Nat) (k a:Nat) (acc:List Int),j≤n→a≤b.length→acc.length=n-j→j<k →
   ∃r',dG (kL (n:Int) b) k ((a:Int),((n-j:Nat):Int),acc)=some r'∧(match fU gG j (b.drop a)with
    |.inl e=>r'=.inl e
    |.inr (l,r)=>∃c:Nat,r'=.inr ((c:Int),acc++l)∧c≤b.length∧r=b.drop c):=by
  intro j
  induction j with
  | zero =>
   intro k a acc _ ha hl hk
   obtain⟨k,rfl⟩:∃i,k=i+1:=⟨k-1,by omega⟩
   have e:kL (n:Int) b ((a:Int),((n-0:Nat):Int),acc)=some (.inr (.inr ((a:Int),acc))):=by
    unfold kL
    simp only
    rw[bD (by split<;>omega),cond_false]
   refine⟨_,by simp only[dG,e];rfl, ?_⟩
   simp only[fU]
   exact⟨a,by simp,ha,rfl⟩
  | succ j ih =>
   intro k a acc hj ha hl hk
   obtain⟨k,rfl⟩:∃i,k=i+1:=⟨k-1,by omega⟩
   have hs:OX b (a:Int) (b.length:Int)=some (b.drop a):=um b a ha
   have ht:=VQ (b.drop a) (by rw[aZ];omega)
   have step:kL (n:Int) b ((a:Int),((n-(j+1):Nat):Int),acc)=(cond ((l6 (b.drop a)).2.2 != 0) (some (.inr (.inl (l6 (b.drop a)).2.2))) (some (.inl ((IntKind.i64.wrap ((a:Int)+(l6 (b.drop a)).2.1)),((n-j:Nat):Int),(acc++[(l6 (b.drop a)).1]))))):=by
    unfold kL
    simp only
    rw[bO (by split<;>omega),cond_true,hs,ak,ht,ak,iT (by unfold dR;simp;omega),cu (x:=((n-(j+1):Nat):Int)+1) (by omega) (by omega),show((n-(j+1):Nat):Int)+1=((n-j:Nat):Int)by omega]
   rcases mX (b.drop a)with e | e |⟨v,kk,e,h1,h2,h3,h4⟩
   ·rw[e]at step
    refine⟨.inl 3,by simp only[dG,step];rfl, ?_⟩
    simp only[fU,cZ,gG,e]
    rfl
   ·rw[e]at step
    refine⟨.inl 2,by simp only[dG,step];rfl, ?_⟩
    simp only[fU,cZ,gG,e]
    rfl
   ·rw[aZ]at h4
    rw[e]at step
    simp only at step
    rw[iP rfl,cond_false,cu (by omega) (by omega),show(a:Int)+(kk:Int)=((a+kk:Nat):Int)by omega]at step
    obtain⟨r',i1,i2⟩:=ih k (a+kk) (acc++[(v:Int)]) (by omega) (by omega) (by simp;omega) (by omega)
    refine⟨r',by simp only[dG,step];exact i1, ?_⟩
    have hp:gG (b.drop a)=.inr ((v:Int),b.drop (a+kk)):=by
     unfold gG
     rw[e]
     simp[List.drop_drop]
    simp only[fU,cZ,hp]
    cases hq:fU gG j (b.drop (a+kk))with
    | inl er=>rw[hq]at i2;exact i2
    | inr y =>
     obtain⟨l,r⟩:=y
     rw[hq]at i2
     obtain⟨c,c1,c2,c3⟩:=i2
     exact⟨c,by rw[c1];simp,c2,c3⟩
 obtain⟨r',h1,h2⟩:=key n KK 0 [] (Nat.le_refl _) (by omega) (by simp) (by have:=kP;omega)
 rw[Nat.sub_self]at h1
 unfold BM L6
 rw[show((0:Int),(0:Int),([]:List Int))=(((0:Nat):Int),((0:Nat):Int),[])from rfl,h1,ak]
 rw[List.drop_zero]at h2
 cases hq:fU gG n b with
 | inl e =>
  rw[hq]at h2
  subst h2
  rfl
 | inr y =>
  obtain⟨l,r⟩:=y
  rw[hq]at h2
  obtain⟨c,rfl,c2,rfl⟩:=h2
  simp only[jY,cond_false,Ob,List.nil_append]
  unfold F5
  rw[um b c c2,ak,qh (by rw[aZ];omega),ak]
theorem Sk (b:List UInt8) (hb:b.length<900000000):wu b=some (match j5 b with
  |.inl e=>([],[],e)
  |.inr (s,r)=>(s,r,0)):=by
 unfold wu j5
 rw[VQ b (by omega),ak]
 rcases mX b with e | e |⟨v,k,e,h1,h2,h3,h4⟩
 ·rw[e];rfl
 ·rw[e];rfl
 ·rw[e]
  simp only[if_true,bL]
  rw[iP rfl,cond_false,cu (x:=(b.length:Int)-(k:Int)) (by omega) (by omega)]
  by_cases c:v≤b.length-k
  ·rw[bD (by omega),cond_false,if_pos c,cu (by omega) (by omega),show(k:Int)+(v:Int)=((k+v:Nat):Int)by omega,um b (k+v) (by omega),ak]
   unfold F5
   rw[qh (by rw[aZ];omega),ak,ag1 b k (k+v) (by omega) (by omega),ak,Nat.add_sub_cancel_left]
  ·rw[bO (by omega),cond_true,if_neg c]
theorem aao (b:List UInt8) (n:Nat) (hb:b.length<900000000) (hn:n<1000000):Cq b (n:Int)=some (match fU j5 n b with
  |.inl e=>([],[],e)
  |.inr (l,r)=>(l,r,0)):=by
 obtain⟨c,h⟩:=akb (p:=j5) (E:=Int⊕(List UInt8×List (List UInt8))) n (by omega) (mO (n:Int)) (λi b acc=>(b,(i:Int),acc)) (λ_ e=>.inl e) (λb acc=>.inr (b,acc)) b.length AU
  (λi b' acc hi hb' ha=>by
   unfold mO
   simp only
   rw[bO (by omega),cond_true,Sk b' (by omega),ak]
   cases hp:j5 b' with
   | inl e =>
    have he:e≠0:=by rcases uF _ _ hp with rfl | rfl<;>omega
    simp only
    rw[oz he,cond_true]
   | inr y =>
    obtain⟨x,r⟩:=y
    simp only
    rw[iP rfl,cond_false,iT (by unfold dR;simp;omega),cu (by omega) (by omega),dF])
  (λb' acc ha=>by
   unfold mO
   simp only
   rw[bD (by omega),cond_false]) n KK b [] (Nat.le_refl _) (Nat.le_refl _) (by simp) (by have:=kP;omega)
 rw[Nat.sub_self]at h
 unfold Cq JB
 rw[show((b,(0:Int),[]):List UInt8×Int×List (List UInt8))=(b,((0:Nat):Int),[])from rfl,h,ak]
 cases fU j5 n b with
 | inl e=>rfl
 | inr y=>rfl
theorem Gn(n:Int)(m:Nat)(hm:0<m)(hm2:m<1000000000000):∃k:Nat,b_ n (m:Int)=some (k:Int)∧k<m:=by
 have h1:=Int.emod_nonneg n (by omega:(m:Int)≠0)
 have h2:=Int.emod_lt_of_pos n (by omega:(0:Int)<(m:Int))
 refine⟨(n%(m:Int)).toNat, ?_,by omega⟩
 rw[Int.toNat_of_nonneg h1]
 unfold b_ au6
 rw[if_neg (by omega),ak]
 have e1:=Int.tmod_add_mul_tdiv n m
 by_cases h:0≤n.tmod m
 ·rw[bD (by omega),cond_false]
  congr 1
  have e2:n.tmod m<m:=Int.tmod_lt_of_pos n (by omega)
  have e3:n%m=(n.tmod m)%m:=by
   conv=>lhs;rw[←e1]
   rw[Int.add_mul_emod_self_left]
  rw[e3,Int.emod_eq_of_lt h e2]
 ·have e2:-(m:Int)<n.tmod m:=Int.lt_tmod_of_pos n (by omega)
  rw[bO (by omega),cond_true,cu (by omega) (by omega)]
  congr 1
  have e3:n%m=(n.tmod m+m)%m:=by
   conv=>lhs;rw[←e1]
   rw[Int.add_mul_emod_self_left,Int.add_emod_right]
  rw[e3,Int.emod_eq_of_lt (by omega) (by omega)]
def gk(k:Int)(x:aB):Prop:=x.Seq=0∨(0<x.Seq∧x.Client=k)
def GoodS(s:bM):Prop:=gk 0 s.l.a0∧gk 1 s.l.a1∧gk 2 s.l.a2∧gk 3 s.l.a3
def jD(s:bM):List aB:=s.l.U5.filter (λx=>decide (0<x.Seq))
def Sm:aB:=⟨0,0,⟨0,[]⟩⟩
def lastOf(c:Int)(L:List aB):aB×Bool:=match L.find? (λy=>y.Client==c)with
 | some y=>(y,true)
 | none=>(Sm,false)
def zT(x:aB)(p:Bool×List aB)(y:aB):Bool×List aB :=
 let q:=bif !p.1&&decide (y.Client≥x.Client)then (true,p.2++[x])else p
 bif y.Client != x.Client then (q.1,q.2++[y])else q
def adQ(x:aB)(L:List aB):List aB :=
 let p:=L.foldl (zT x) (false,[])
 bif !p.1 then p.2++[x]else p.2
def PK(x:aB)(L:List aB):Bool×List aB :=
 if x.Client<0∨4≤x.Client∨x.Seq<1∨x.Seq≤(lastOf x.Client L).1.Seq then (false,L)else (true,adQ x L)
theorem agm (c:Int) (L:List aB) (h:L.length<1000000):∀f:Int→Option (Int⊕(aB⊕Unit)),
  (∀s,f s=cond (decide (s<(L.length:Int))) ((dH L s).bind λ(x4:aB)=>cond (x4.Client==c) ((dH L s).bind λ(x5:aB)=>some (.inr (.inl x5))) (some (.inl (IntKind.i64.wrap (s+1))))) (some (.inr (.inr ())))) →
  dG f KK 0=some (match L.find? (λy=>y.Client==c)with | some y=>.inl y | none=>.inr ()):=by
 intro f hf
 have key:∃e,dG f KK ((0:Nat):Int)=some e∧e=(match L.find? (λy=>y.Client==c)with | some y=>.inl y | none=>.inr ()):=by
  refine kV (λs=>L.length-s.toNat) (λs=>∃i:Nat,s=(i:Int)∧i≤L.length∧L.find? (λy=>y.Client==c)=(L.drop i).find? (λy=>y.Client==c)) _ ?_ KK _ ⟨0,rfl,by omega,rfl⟩ (by have:=kP;omega)
  rintro s ⟨i,rfl,h1,h2⟩
  rw[hf]
  by_cases hi:i<L.length
  ·rw[bO (by omega),cond_true,dU hi,ak,ak]
   rw[List.drop_eq_getElem_cons hi,List.find?_cons]at h2
   cases e:(L[i].Client==c)
   ·left
    rw[cond_false,cu (by omega) (by omega),dF]
    rw[e]at h2
    exact⟨_,rfl,⟨i+1,rfl,by omega,h2⟩,by omega⟩
   ·right
    rw[e]at h2
    rw[cond_true,h2]
    exact⟨_,rfl,rfl⟩
  ·right
   rw[bD (by omega),cond_false,h2,List.drop_of_length_le (by omega)]
   exact⟨_,rfl,rfl⟩
 obtain⟨e,e1,rfl⟩:=key
 exact e1
theorem aap(c:Int)(L:List aB)(h:L.length<1000000):ql c L=some (lastOf c L):=by
 unfold ql wE lastOf
 rw[agm c L h (kW L c) (λ_=>rfl),ak]
 cases L.find? (λy=>y.Client==c)<;>rfl
theorem agn(x:aB)(L:List aB):∀p:Bool×List aB,(L.foldl (zT x) p).2.length≤p.2.length+2*L.length:=by
 induction L with
 | nil=>intro p;simp
 | cons y L ih =>
  intro p
  refine Nat.le_trans (ih _) ?_
  have:(zT x p y).2.length≤p.2.length+2:=by
   unfold zT
   cases (!p.1&&decide (y.Client≥x.Client))<;>cases (y.Client != x.Client)<;>simp
  simp only[bA]
  omega
theorem Cr{β:Type}{n:Nat}{x:Option β}(h:n<1000000):gd (dR 40 n) x=x:=by
 refine iT ?_
 unfold dR
 simp
 omega
theorem adR(x:aB)(L:List aB)(h:L.length<1000):mE L x (false,0,[])=some (L.foldl (zT x) (false,[])):=by
 have e0:((false,0,[]):Bool×Int×List aB)=(((L.take 0).foldl (zT x) (false,[])).1,((0:Nat):Int),((L.take 0).foldl (zT x) (false,[])).2):=by simp
 unfold mE
 rw[e0]
 refine lI (λi=>(((L.take i).foldl (zT x) (false,[])).1,(i:Int),((L.take i).foldl (zT x) (false,[])).2)) L.length _ (λi hi=>?_) ?_ (by omega)
 ·have h5:(L.take (i+1)).foldl (zT x) (false,[])=zT x ((L.take i).foldl (zT x) (false,[])) L[i]:=by
   rw[bG hi,List.foldl_append]
   rfl
  have h6:=agn x (L.take i) (false,[])
  have h7:(L.take i).length≤1000:=by rw[bf];omega
  rw[h5]
  generalize (L.take i).foldl (zT x) (false,[])=p at *
  obtain⟨b,o⟩:=p
  have h8:o.length<10000:=by simp at h6;omega
  have h9:∀(l:List aB),o.length≤l.length→l.length≤o.length+2→l.length<1000000:=λl _ _=>by omega
  unfold jC
  simp only
  rw[bO (by omega),cond_true]
  unfold qO qN
  simp only
  rw[dU hi]
  simp only[ak]
  unfold zT
  simp only
  rw[cu (x:=(i:Int)+1) (by omega) (by omega),dF]
  cases b
  ·simp only[Bool.not_false,cond_true,ak,Bool.true_and]
   cases (decide (L[i].Client≥x.Client))<;>simp only[cond_true,cond_false,ak]
   ·cases (L[i].Client != x.Client)<;>simp only[cond_true,cond_false]
    rw[Cr (by simp;omega)]
   ·rw[Cr (by simp;omega),ak]
    cases (L[i].Client != x.Client)<;>simp only[cond_true,cond_false]
    rw[Cr (by simp;omega)]
  ·simp only[Bool.not_true,cond_false,ak,Bool.false_and]
   cases (L[i].Client != x.Client)<;>simp only[cond_true,cond_false]
   rw[Cr (by simp;omega)]
 ·unfold jC
  simp only
  rw[bD (by omega),cond_false,List.take_length]
theorem aaq(x:aB)(L:List aB)(h:L.length<1000):kQ x L=some (PK x L):=by
 unfold kQ
 rw[aap _ _ (by omega),ak]
 unfold PK kr
 by_cases h1:x.Client<0
 ·rw[bO h1,if_pos (.inl h1)];rfl
 rw[bD h1,cond_false]
 by_cases h2:x.Client≥4
 ·rw[bO h2,if_pos (.inr (.inl h2))];rfl
 rw[bD h2,cond_false]
 by_cases h3:x.Seq<1
 ·rw[bO h3,if_pos (.inr (.inr (.inl h3)))];rfl
 rw[bD h3,cond_false]
 by_cases h4:x.Seq≤(lastOf x.Client L).1.Seq
 ·rw[bO h4,if_pos (.inr (.inr (.inr h4)))];rfl
 rw[bD h4,cond_false,if_neg (by omega),ak]
 simp only[jY,cond_false]
 rw[adR x L h,ak]
 unfold ku adQ
 have h6:=agn x L (false,[])
 simp only
 cases (L.foldl (zT x) (false,[])).1
 ·simp only[Bool.not_false,cond_true]
  rw[Cr (by simp at h6;simp;omega)]
  rfl
 ·rfl
theorem OE(s:bM):(jD s).length≤4:=by
 unfold jD
 exact Nat.le_trans (List.length_filter_le _ _) (by simp[A4.U5])
theorem amH(x:aB)(s:bM)(hs:GoodS s):∃b s',fD x s=some (b,s')∧GoodS s'∧PK x (jD s)=(b,jD s'):=by
 by_cases h1:x.Client<0
 ·exact⟨false,s,by unfold fD gB;rw[bO h1];rfl,hs,by unfold PK;rw[if_pos (.inl h1)]⟩
 by_cases h2:x.Client≥4
 ·exact⟨false,s,by unfold fD gB;rw[bD h1,bO h2];rfl,hs,by unfold PK;rw[if_pos (.inr (.inl h2))]⟩
 by_cases h3:x.Seq<1
 ·exact⟨false,s,by unfold fD gB;rw[bD h1,bD h2,bO h3];rfl,hs,by unfold PK;rw[if_pos (.inr (.inr (.inl h3)))]⟩
 have hx:0<x.Seq:=by omega
 have step:∀a:aB,dH s.l.U5 x.Client=some a→(lastOf x.Client (jD s)).1.Seq=a.Seq→GoodS ⟨s.l.set x.Client x⟩→adQ x (jD s)=jD ⟨s.l.set x.Client x⟩ →
   ∃b s',fD x s=some (b,s')∧GoodS s'∧PK x (jD s)=(b,jD s'):=by
  intro a ha hl hg hn
  by_cases h4:x.Seq≤a.Seq
  ·exact⟨false,s,by unfold fD gB;rw[bD h1,bD h2,bD h3,ha];simp only[cond_false,ak];rw[bO h4];rfl,hs,by unfold PK;rw[if_pos (.inr (.inr (.inr (by rw[hl];exact h4))))]⟩
  ·refine⟨true,⟨s.l.set x.Client x⟩, ?_,hg, ?_⟩
   ·unfold fD gB
    rw[bD h1,bD h2,bD h3,ha]
    simp only[cond_false,ak]
    rw[bD h4]
    rfl
   ·unfold PK
    rw[if_neg (by rw[hl];omega),hn]
 obtain⟨⟨a0,a1,a2,a3⟩⟩:=s
 obtain⟨g0,g1,g2,g3⟩:=hs
 simp only at g0 g1 g2 g3
 have hc:x.Client=0∨x.Client=1∨x.Client=2∨x.Client=3:=by omega
 rcases hc with hc | hc | hc | hc
 ·refine step a0 (by rw[hc];rfl) ?_ ?_ ?_
  ·rcases g0 with k0 |⟨k0,q0⟩<;>rcases g1 with k1 |⟨k1,q1⟩<;>rcases g2 with k2 |⟨k2,q2⟩<;>rcases g3 with k3 |⟨k3,q3⟩<;>simp[lastOf,jD,A4.U5,Sm, *]
  ·rw[hc];exact⟨.inr ⟨hx,hc⟩,g1,g2,g3⟩
  ·rcases g0 with k0 |⟨k0,q0⟩<;>rcases g1 with k1 |⟨k1,q1⟩<;>rcases g2 with k2 |⟨k2,q2⟩<;>rcases g3 with k3 |⟨k3,q3⟩<;>simp[adQ,zT,jD,A4.U5,A4.set, *]
 ·refine step a1 (by rw[hc];rfl) ?_ ?_ ?_
  ·rcases g0 with k0 |⟨k0,q0⟩<;>rcases g1 with k1 |⟨k1,q1⟩<;>rcases g2 with k2 |⟨k2,q2⟩<;>rcases g3 with k3 |⟨k3,q3⟩<;>simp[lastOf,jD,A4.U5,Sm, *]
  ·rw[hc];exact⟨g0,.inr ⟨hx,hc⟩,g2,g3⟩
  ·rcases g0 with k0 |⟨k0,q0⟩<;>rcases g1 with k1 |⟨k1,q1⟩<;>rcases g2 with k2 |⟨k2,q2⟩<;>rcases g3 with k3 |⟨k3,q3⟩<;>simp[adQ,zT,jD,A4.U5,A4.set, *]
 ·refine step a2 (by rw[hc];rfl) ?_ ?_ ?_
  ·rcases g0 with k0 |⟨k0,q0⟩<;>rcases g1 with k1 |⟨k1,q1⟩<;>rcases g2 with k2 |⟨k2,q2⟩<;>rcases g3 with k3 |⟨k3,q3⟩<;>simp[lastOf,jD,A4.U5,Sm, *]
  ·rw[hc];exact⟨g0,g1,.inr ⟨hx,hc⟩,g3⟩
  ·rcases g0 with k0 |⟨k0,q0⟩<;>rcases g1 with k1 |⟨k1,q1⟩<;>rcases g2 with k2 |⟨k2,q2⟩<;>rcases g3 with k3 |⟨k3,q3⟩<;>simp[adQ,zT,jD,A4.U5,A4.set, *]
 ·refine step a3 (by rw[hc];rfl) ?_ ?_ ?_
  ·rcases g0 with k0 |⟨k0,q0⟩<;>rcases g1 with k1 |⟨k1,q1⟩<;>rcases g2 with k2 |⟨k2,q2⟩<;>rcases g3 with k3 |⟨k3,q3⟩<;>simp[lastOf,jD,A4.U5,Sm, *]
  ·rw[hc];exact⟨g0,g1,g2,.inr ⟨hx,hc⟩⟩
  ·rcases g0 with k0 |⟨k0,q0⟩<;>rcases g1 with k1 |⟨k1,q1⟩<;>rcases g2 with k2 |⟨k2,q2⟩<;>rcases g3 with k3 |⟨k3,q3⟩<;>simp[adQ,zT,jD,A4.U5,A4.set, *]
def yO:bM:=⟨⟨Sm,Sm,Sm,Sm⟩⟩
def Ct(s:bM)(x:aB):bM:=match fD x s with
 | some r=>r.2
 | none=>s
theorem JN(x:aB)(s:bM)(hs:GoodS s):(∃b,fD x s=some (b,Ct s x)∧PK x (jD s)=(b,jD (Ct s x)))∧GoodS (Ct s x):=by
 obtain⟨b,s',e1,e2,e3⟩:=amH x s hs
 have:Ct s x=s':=by unfold Ct;rw[e1]
 rw[this]
 exact⟨⟨b,e1,e3⟩,e2⟩
theorem NM(l:List aB):∀s,GoodS s→GoodS (l.foldl Ct s):=by
 induction l with
 | nil=>exact λs h=>h
 | cons x l ih=>exact λs h=>ih _ (JN x s h).2
theorem akd(l:List aB)(h:l.length<1000000000):∃s,o_ l=some s∧GoodS s∧Aq l=some ⟨jD s⟩:=by
 have g0:GoodS yO:=⟨.inl rfl,.inl rfl,.inl rfl,.inl rfl⟩
 refine⟨l.foldl Ct yO, ?_,NM l _ g0, ?_⟩
 ·unfold o_
  have key:zq l (0,yO)=some (l.foldl Ct yO):=by
   refine lI (λi=>((i:Int),(l.take i).foldl Ct yO)) l.length _ (λi hi=>?_) ?_ (by omega)
   ·obtain⟨⟨b,e1,_⟩,_⟩:=JN l[i] _ (NM (l.take i) _ g0)
    unfold jF
    simp only
    rw[bO (by omega),cond_true,dU hi,ak,e1,ak,cu (by omega) (by omega),dF,bG hi,List.foldl_append]
    rfl
   ·unfold jF
    simp only
    rw[bD (by omega),cond_false,List.take_length]
  have e:(0,yO)=((0:Int),(⟨(⟨(⟨0,0,(⟨0,([]:List UInt8)⟩:aJ)⟩:aB),(⟨0,0,(⟨0,([]:List UInt8)⟩:aJ)⟩:aB),(⟨0,0,(⟨0,([]:List UInt8)⟩:aJ)⟩:aB),(⟨0,0,(⟨0,([]:List UInt8)⟩:aJ)⟩:aB)⟩:A4 aB)⟩:bM)):=rfl
  rw[←e,key]
  rfl
 ·unfold Aq
  have key:ED l (0,[])=some (jD (l.foldl Ct yO)):=by
   refine lI (λi=>((i:Int),jD ((l.take i).foldl Ct yO))) l.length _ (λi hi=>?_) ?_ (by omega)
   ·obtain⟨⟨b,_,e1⟩,_⟩:=JN l[i] _ (NM (l.take i) _ g0)
    have hl:=OE ((l.take i).foldl Ct yO)
    unfold mG
    simp only
    rw[bO (by omega),cond_true,dU hi,ak,aaq _ _ (by omega),ak,e1,cu (by omega) (by omega),dF,bG hi,List.foldl_append]
    rfl
   ·unfold mG
    simp only
    rw[bD (by omega),cond_false,List.take_length]
  rw[key]
  rfl
theorem OG(n:Int):∃v,Ak n=some v:=by
 obtain⟨k,hk,h⟩:=Gn n 6 (by omega) (by omega)
 unfold Ak
 rw[show(6:Int)=((6:Nat):Int)from rfl,hk,ak,dU (by simpa using h),ak]
 exact⟨_,rfl⟩
theorem eZ(n:Int)(m:Nat)(h:0<m)(h2:m<1000000000000):∃k,b_ n (m:Int)=some k:=by
 obtain⟨k,hk,_⟩:=Gn n m h h2
 exact⟨_,hk⟩
theorem JO(n:Int):∃v,CY n=some v:=by
 obtain⟨a,ha⟩:=eZ n 7 (by omega) (by omega)
 obtain⟨b,hb⟩:=eZ (IntKind.i64.wrap (Int.tdiv n 7)) 40 (by omega) (by omega)
 obtain⟨c,hc,hc2⟩:=Gn (IntKind.i64.wrap (Int.tdiv n 7)) 63 (by omega) (by omega)
 obtain⟨d,hd⟩:=eZ (IntKind.i64.wrap (Int.tdiv n 441)) 3 (by omega) (by omega)
 obtain⟨e,he⟩:=eZ (IntKind.i64.wrap (Int.tdiv n 7)) 3 (by omega) (by omega)
 obtain⟨f,hf⟩:=eZ (IntKind.i64.wrap (Int.tdiv n 7)) 1000 (by omega) (by omega)
 have hs:aiL .i64 1 (IntKind.u64.wrap (c:Int))=some (IntKind.i64.wrap (1*2 ^ (min (IntKind.u64.wrap (c:Int)).toNat IntKind.i64.bits))):=by
  unfold aiL
  rw[if_neg (by have:=aiU (c:Int);omega)]
 have hj:∃b,ML a n=some b:=by
  unfold ML
  cases (a==0)<;>cases (a==1)<;>exact⟨_,rfl⟩
 obtain⟨j,hj⟩:=hj
 unfold CY
 rw[show(7:Int)=((7:Nat):Int)from rfl,ha,ak,hj,ak]
 cases j
 ·rw[cond_false]
  cases (a==3)
  ·rw[cond_false]
   cases (a==4)
   ·rw[cond_false]
    cases (a==5)
    ·exact⟨_,rfl⟩
    ·rw[cond_true,show(1000:Int)=((1000:Nat):Int)from rfl,show((7:Nat):Int)=7 from rfl,hf]
     exact⟨_,rfl⟩
   ·rw[cond_true,show(3:Int)=((3:Nat):Int)from rfl,show((7:Nat):Int)=7 from rfl,he]
    exact⟨_,rfl⟩
  ·rw[cond_true,show(63:Int)=((63:Nat):Int)from rfl,show((7:Nat):Int)=7 from rfl,hc,ak,hs,ak,show(3:Int)=((3:Nat):Int)from rfl,hd]
   exact⟨_,rfl⟩
 ·rw[cond_true,show(40:Int)=((40:Nat):Int)from rfl,show((7:Nat):Int)=7 from rfl,hb]
  exact⟨_,rfl⟩
end Go.Proofs.YtohoggieaanllaaGreat
