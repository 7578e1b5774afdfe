import Derived.Test.YtohoggieaanllaaGreatXt
import Derived.Test.YtohoggieaanllaaGreatXs
import Derived.Test.YtohoggieaanllaaGreatY4
set_option linter.all false
set_option maxRecDepth 100000
namespace Go.Proofs.YtohoggieaanllaaGreat
def qN (aQ:aC) (s5:List UInt8×Int):List AV×WH:=([(.ptr (some (0,0))),(kS s5.1),(bL aQ.Pairs),(.int .i64 (aQ.Pairs.length:Int)),(.int .i64 s5.2)],[(some (.cells (bK aQ) false false))])
def uR (aQ:aC):(List UInt8)→Ex×Fast×WH:=λe=>((.exit 0),[(3,(.ptr (some (0,0)))),(5,(kS e))],[(some (.cells (bK aQ) false false))])
abbrev Pg (aQ:aC):=dF [3,5,24,25,26] (qN aQ) (uR aQ)
def kI (aQ:aC) (s5:List UInt8×Int):Option ((List UInt8×Int)⊕((List UInt8))) :=
 cond (decide (s5.2 < (aQ.Pairs.length:Int))) ((bV aQ.Pairs s5.2).bind λ(x6:av)=>(CS s5.1 ([x6.Key,x6.Value])).bind λ(x7:List UInt8)=>some (.inl (x7,(IntKind.i64.wrap (s5.2+1))))) (some (.inr s5.1))
def vo (aQ:aC) (s5:List UInt8×Int):Option ((List UInt8)):=bQ (kI aQ) KK s5
theorem QK (d:Nat) {aQ:aC} {s5:List UInt8×Int} {r:(List UInt8×Int)⊕((List UInt8))} (h:kI aQ s5=some r):bN (aV (aF aH (d+3)) KK 63 aiZ) 0 (jJ [3,5,24,25,26] (qN aQ s5)) (Pg aQ r):=by
 unfold kI at h
 exact bC nB alC h (.br 27 (λ_=>.bd λx6 q6=>Ix aO 28 q6 <| .st none <| .bd λx7 q7=>Cl [] Fo [] (Pf (d+0) q7) <| E1 [3,5,24,25,26] [none,none,none,none,none] [] [.undef,.undef,.slice none 2 0 0 true,.undef,.undef]) λ_=>E0 [3,5])
theorem QL (d:Nat) {aQ:aC} {s5:List UInt8×Int} {r:(List UInt8)} (h:vo aQ s5=some r):bN (eY (aV (aF aH (d+3)) KK 63 aiZ) [3,5,24,25,26] KK) 0 (jJ [3,5,24,25,26] (qN aQ s5)) (uR aQ r) :=
 cO (st:=qN aQ) (fin:=uR aQ) (step:=kI aQ) (λe=>by (intro h;cases h)) (λs x h=>QK d h) KK s5 r h
def qO (aQ:aC) (s13:List UInt8×Int):List AV×WH:=([(kS s13.1),(dw aQ.dN),(.int .i64 (aQ.dN.length:Int)),(.int .i64 s13.2)],[])
def uS (aQ:aC):(List UInt8)→Ex×Fast×WH:=λe=>((.exit 2),[(5,(kS e))],[])
abbrev Ph (aQ:aC):=dF [5,45,46,47] (qO aQ) (uS aQ)
def kJ (aQ:aC) (s13:List UInt8×Int):Option ((List UInt8×Int)⊕((List UInt8))) :=
 cond (decide (s13.2 < (aQ.dN.length:Int))) ((bV aQ.dN s13.2).bind λ(m_:au)=>(ny s13.1 ([m_.Client,m_.Seq])).bind λ(bX:List UInt8)=>(qp bX m_.Answer).bind λ(mE:List UInt8)=>some (.inl (mE,(IntKind.i64.wrap (s13.2+1))))) (some (.inr s13.1))
def vw (aQ:aC) (s13:List UInt8×Int):Option ((List UInt8)):=bQ (kJ aQ) KK s13
theorem QM (d:Nat) {aQ:aC} {s13:List UInt8×Int} {r:(List UInt8×Int)⊕((List UInt8))} (h:kJ aQ s13=some r):bN (aV (aF aH (d+4)) KK 63 ai0) 0 (jJ [5,45,46,47] (qO aQ s13)) (Ph aQ r):=by
 unfold kJ at h
 exact bC nB alD h (.br 48 (λ_=>.bd λm_ ND=>Ix bW 49 ND <| .st none <| .bd λbX ML=>Cl [] Fo [] (oF (d+2) ML) <| .bd λmE q16=>Cl [] Fo [] (I7 (d+0) q16) <| E1 [5,45,46,47] [none,none,none,none] [] [.undef,.slice none 4 0 0 true,.undef,.undef]) λ_=>E0 [5])
theorem QN (d:Nat) {aQ:aC} {s13:List UInt8×Int} {r:(List UInt8)} (h:vw aQ s13=some r):bN (eY (aV (aF aH (d+4)) KK 63 ai0) [5,45,46,47] KK) 0 (jJ [5,45,46,47] (qO aQ s13)) (uS aQ r) :=
 cO (st:=qO aQ) (fin:=uS aQ) (step:=kJ aQ) (λe=>by (intro h;cases h)) (λs x h=>QM d h) KK s13 r h
def wz (bg:List UInt8) (aQ:aC):Option (List UInt8) :=
 (lC aQ).bind λ(x1:Bool)=>cond (!x1) (some []) ((ny bg ([aQ.dR,aQ.Epoch,(aQ.Pairs.length:Int)])).bind λ(x2:List UInt8)=>(vo aQ (x2,0)).bind λ(x8:(List UInt8))=>(ny x8 ([(aQ.dN.length:Int)])).bind λ(x9:List UInt8)=>(vw aQ (x9,0)).bind λ(jP:(List UInt8))=>some jP)
def GQ (bg:List UInt8) (aQ:aC) (r:List UInt8):AV×WH:=((kS r),[])
theorem WM (d:Nat) {bg:List UInt8} {aQ:aC} {r:List UInt8} (h:wz bg aQ=some r):Spec (aF aH (d+11)) 59 [(kS bg),(.agg (bK aQ))] [] (GQ bg aQ r).1 (GQ bg aQ r).2:=by
 unfold wz at h
 exact aZ nB ayX h (.bd λx1 q1=>Cb [.agg [.undef,.undef,.slice none 2 0 0 true,.slice none 4 0 0 true]] (zK (d+0) q1) <| .br 12 (λ_=>Fn Fo [] none) λ_=>.bd λx2 q2=>Cl [] Fo [] (oF (d+8) q2) <| .bd λx8 q8=>Lp [none,none,none,none,none] [] [.undef,.undef,.slice none 2 0 0 true,.undef,.undef] (QL (d+7) q8) <| .bd λx9 q9=>Cl [] Fo [] (oF (d+8) q9) <| .bd λjP Jm=>Lp [none,none,none,none] [] [.undef,.slice none 4 0 0 true,.undef,.undef] (QN (d+6) Jm) <| Fn Fo [] none)
def Dl (m:aM) (rD:List UInt8×Int):List AV×WH:=([(.ptr (some (0,0))),(kS rD.1),(eP m.Table),(.int .i64 (m.Table.length:Int)),(.int .i64 rD.2)],[(some (.cells (dh m) false false))])
def GR (m:aM):(List UInt8)→Ex×Fast×WH:=λe=>((.exit 0),[(1,(.ptr (some (0,0)))),(3,(kS e))],[(some (.cells (dh m) false false))])
abbrev acy (m:aM):=dF [1,3,40,41,42] (Dl m) (GR m)
def xH (m:aM) (rD:List UInt8×Int):Option ((List UInt8×Int)⊕((List UInt8))) :=
 cond (decide (rD.2 < (m.Table.length:Int))) ((bV m.Table rD.2).bind λ(bX:aA)=>(UQ bX.dL).bind λ(mE:Int)=>(ny rD.1 ([bX.Inc,bX.Status,bX.qZ,bX.Load,mE])).bind λ(jP:List UInt8)=>some (.inl (jP,(IntKind.i64.wrap (rD.2+1))))) (some (.inr rD.1))
def LY (m:aM) (rD:List UInt8×Int):Option ((List UInt8)):=bQ (xH m) KK rD
theorem afh (d:Nat) {m:aM} {rD:List UInt8×Int} {r:(List UInt8×Int)⊕((List UInt8))} (h:xH m rD=some r):bN (aV (aF aH (d+2)) KK 65 aiL) 0 (jJ [1,3,40,41,42] (Dl m rD)) (acy m r):=by
 unfold xH at h
 exact bC nB alu h (.br 43 (λ_=>.bd λbX ML=>Ix kK 44 ML <| .st none <| .bd λmE q16=>iN (adP (d+1) q16) <| .bd λjP Jm=>Cl [] Fo [] (oF (d+0) Jm) <| E1 [1,3,40,41,42] [none,none,none,none,none] [] [.undef,.undef,.slice none 5 0 0 true,.undef,.undef]) λ_=>E0 [1,3])
theorem afi (d:Nat) {m:aM} {rD:List UInt8×Int} {r:(List UInt8)} (h:LY m rD=some r):bN (eY (aV (aF aH (d+2)) KK 65 aiL) [1,3,40,41,42] KK) 0 (jJ [1,3,40,41,42] (Dl m rD)) (GR m r) :=
 cO (st:=Dl m) (fin:=GR m) (step:=xH m) (λe=>by (intro h;cases h)) (λs x h=>afh d h) KK rD r h
def LZ (m:aM):Option (List UInt8) :=
 (xD m).bind λ(x1:Bool)=>cond (!x1) (some []) ((Bh m).bind λ(x2:List Int)=>(ny [] x2).bind λ(x3:List UInt8)=>(UQ m.dL).bind λ(x4:Int)=>(ny x3 [x4]).bind λ(x5:List UInt8)=>(BD x5 m.Fa).bind λ(x6:List UInt8)=>(qp x6 m.Answer).bind λ(x7:List UInt8)=>(ny x7 ([(m.Path.length:Int)])).bind λ(x8:List UInt8)=>(ny x8 m.Path).bind λ(x9:List UInt8)=>(ny x9 ([(m.Table.length:Int)])).bind λ(x10:List UInt8)=>(LY m (x10,0)).bind λ(x18:(List UInt8))=>(wz x18 m.mZ).bind λ(mh:List UInt8)=>some mh)
def XO (m:aM) (r:List UInt8):AV×WH:=((kS r),[])
theorem adQ (d:Nat) {m:aM} {r:List UInt8} (h:LZ m=some r):Spec (aF aH (d+12)) 12 [(.agg (dh m))] [] (XO m r).1 (XO m r).2:=by
 unfold LZ at h
 exact aZ nB ays h (.bd λx1 q1=>Cb [.agg [.undef,.undef,.undef,.undef,.undef,.undef,.undef,.undef,.undef,.undef,.undef,.undef,.undef,.undef,.undef,.undef,.undef,.slice none 1 0 0 true,.slice none 5 0 0 true,.undef,.undef,.slice none 2 0 0 true,.slice none 4 0 0 true]] (I6 (d+0) q1) <| .br 8 (λ_=>Fn Fo [] none) λ_=>.bd λx2 q2=>Cl [] Fo [.agg [.undef,.undef,.undef,.undef,.undef,.undef,.undef,.undef,.undef,.undef,.undef,.undef,.undef,.undef,.undef,.undef,.undef,.slice none 1 0 0 true,.slice none 5 0 0 true,.undef,.undef,.slice none 2 0 0 true,.slice none 4 0 0 true]] (LV (d+10) q2) <| .bd λx3 q3=>Cl [] Fo [] (oF (d+9) q3) <| .bd λx4 q4=>iN (adP (d+10) q4) <| .bd λx5 q5=>Cl [] Fo [] (oF (d+9) q5) <| .bd λx6 q6=>Cl [] Fo [] (aa0 (d+7) q6) <| .bd λx7 q7=>Cl [] Fo [] (I7 (d+7) q7) <| .bd λx8 q8=>Cl [] Fo [] (oF (d+9) q8) <| .er <| .ob (rfl:@Eq (Option AV) (some (J9 m.Path)) (some (J9 m.Path))) <| .bd λx9 q9=>Cl [] Fo [] (oF (d+9) q9) <| .bd λx10 J_=>Cl [] Fo [] (oF (d+9) J_) <| .bd λx18 V_=>Lp [none,none,none,none,none] [] [.undef,.undef,.slice none 5 0 0 true,.undef,.undef] (afi (d+9) V_) <| .bd λmh Qw=>Cl [] Fo [.undef,.agg [.undef,.undef,.slice none 2 0 0 true,.slice none 4 0 0 true]] (WM (d+0) Qw) <| Fn Fo [] none)
def kD (a0:List Int) (a1:List Int) (s3:Int):List AV×WH:=([(J9 a0),(J9 a1),(.int .i64 (a0.length:Int)),(.int .i64 s3)],[])
def nJ (a0:List Int) (a1:List Int):Unit⊕Unit→Ex×Fast×WH:=fun
 | .inl e=>(.ret,[(4,(.bool false))],[])
 | .inr e=>((.exit 0),[],[])
abbrev GU (a0:List Int) (a1:List Int):=dF [0,1,12,13] (kD a0 a1) (nJ a0 a1)
def jg (a0:List Int) (a1:List Int) (s3:Int):Option ((Int)⊕(Unit⊕Unit)) :=
 cond (decide (s3 < (a0.length:Int))) ((bV a0 s3).bind λ(x4:Int)=>(bV a1 s3).bind λ(x5:Int)=>cond (x4 != x5) (some (.inr (.inl ()))) (some (.inl (IntKind.i64.wrap (s3+1))))) (some (.inr (.inr ())))
def rY (a0:List Int) (a1:List Int) (s3:Int):Option (Unit⊕Unit):=bQ (jg a0 a1) KK s3
theorem Ie (d:Nat) {a0:List Int} {a1:List Int} {s3:Int} {r:(Int)⊕(Unit⊕Unit)} (h:jg a0 a1 s3=some r):bN (aV (aF aH (d+0)) KK 26 ai1) 0 (jJ [0,1,12,13] (kD a0 a1 s3)) (GU a0 a1 r):=by
 unfold jg at h
 exact bC nB alF h (.br 14 (λ_=>.bd λx4 q4=>Ix IB 18 q4 <| .bd λx5 q5=>Ix IB 22 q5 <| .br 24 (λ_=>E0 [4]) λ_=>E0 [0,1,12,13]) λ_=>E0 [])
theorem xV (d:Nat) {a0:List Int} {a1:List Int} {s3:Int} {r:Unit⊕Unit} (h:rY a0 a1 s3=some r):bN (eY (aV (aF aH (d+0)) KK 26 ai1) [0,1,12,13] KK) 0 (jJ [0,1,12,13] (kD a0 a1 s3)) (nJ a0 a1 r) :=
 cO (st:=kD a0 a1) (fin:=nJ a0 a1) (step:=jg a0 a1) (λe=>by rcases e with e | e<;>(intro h;cases h)) (λs x h=>Ie d h) KK s3 r h
def jS (a0:List Int) (a1:List Int):Option (Bool) :=
 cond ((a0.length:Int) != (a1.length:Int)) (some false) ((rY a0 a1 0).bind λ(x6:Unit⊕Unit)=>cond (jO x6) (some false) (some true))
def yU (a0:List Int) (a1:List Int) (r:Bool):AV×WH:=((.bool r),[])
theorem BF (d:Nat) {a0:List Int} {a1:List Int} {r:Bool} (h:jS a0 a1=some r):Spec (aF aH (d+1)) 60 [(J9 a0),(J9 a1)] [] (yU a0 a1 r).1 (yU a0 a1 r).2:=by
 unfold jS at h
 exact aZ nB ayY h (.br 10 (λ_=>Fn Fo [] none) λ_=>.bd λx6 q6=>.ite (λEu=>Lp [none,none,none,none] [] [] (j6 (il Eu) (xV (d+0) q6)) <| Fn Fo [] none) λEu=>Lp [none,none,none,none] [] [] (j6 (Ai Eu) (xV (d+0) q6)) <| Fn Fo [] none)
def gK (a0:List aA) (a1:List aA) (s3:Int):List AV×WH:=([(eP a0),(eP a1),(.int .i64 (a0.length:Int)),(.int .i64 s3)],[])
def iL (a0:List aA) (a1:List aA):Unit⊕Unit→Ex×Fast×WH:=fun
 | .inl e=>(.ret,[(4,(.bool false))],[])
 | .inr e=>((.exit 0),[],[])
abbrev wC (a0:List aA) (a1:List aA):=dF [0,1,12,13] (gK a0 a1) (iL a0 a1)
def gU (a0:List aA) (a1:List aA) (s3:Int):Option ((Int)⊕(Unit⊕Unit)) :=
 cond (decide (s3 < (a0.length:Int))) ((bV a0 s3).bind λ(x4:aA)=>(bV a1 s3).bind λ(x5:aA)=>cond (!(x4.Inc==x5.Inc&&(x4.Status==x5.Status&&(x4.qZ==x5.qZ&&(x4.Load==x5.Load&&(x4.dL==x5.dL&&true)))))) (some (.inr (.inl ()))) (some (.inl (IntKind.i64.wrap (s3+1))))) (some (.inr (.inr ())))
def nQ (a0:List aA) (a1:List aA) (s3:Int):Option (Unit⊕Unit):=bQ (gU a0 a1) KK s3
theorem xI (d:Nat) {a0:List aA} {a1:List aA} {s3:Int} {r:(Int)⊕(Unit⊕Unit)} (h:gU a0 a1 s3=some r):bN (aV (aF aH (d+0)) KK 26 ai2) 0 (jJ [0,1,12,13] (gK a0 a1 s3)) (wC a0 a1 r):=by
 unfold gU at h
 exact bC nB alH h (.br 14 (λ_=>.bd λx4 q4=>Ix kK 18 q4 <| .bd λx5 q5=>Ix kK 22 q5 <| .br 24 (λ_=>E0 [4]) λ_=>E1 [0,1,12,13] [none,none,none,none] [] [.slice none 5 0 0 true,.slice none 5 0 0 true,.undef,.undef]) λ_=>E0 [])
theorem mJ (d:Nat) {a0:List aA} {a1:List aA} {s3:Int} {r:Unit⊕Unit} (h:nQ a0 a1 s3=some r):bN (eY (aV (aF aH (d+0)) KK 26 ai2) [0,1,12,13] KK) 0 (jJ [0,1,12,13] (gK a0 a1 s3)) (iL a0 a1 r) :=
 cO (st:=gK a0 a1) (fin:=iL a0 a1) (step:=gU a0 a1) (λe=>by rcases e with e | e<;>(intro h;cases h)) (λs x h=>xI d h) KK s3 r h
def iH (a0:List aA) (a1:List aA):Option (Bool) :=
 cond ((a0.length:Int) != (a1.length:Int)) (some false) ((nQ a0 a1 0).bind λ(x6:Unit⊕Unit)=>cond (jO x6) (some false) (some true))
def nA (a0:List aA) (a1:List aA) (r:Bool):AV×WH:=((.bool r),[])
theorem zL (d:Nat) {a0:List aA} {a1:List aA} {r:Bool} (h:iH a0 a1=some r):Spec (aF aH (d+1)) 61 [(eP a0),(eP a1)] [] (nA a0 a1 r).1 (nA a0 a1 r).2:=by
 unfold iH at h
 exact aZ nB ayZ h (.br 10 (λ_=>Fn Fo [] none) λ_=>.bd λx6 q6=>.ite (λEu=>Lp [none,none,none,none] [] [.slice none 5 0 0 true,.slice none 5 0 0 true,.undef,.undef] (j6 (il Eu) (mJ (d+0) q6)) <| Fn Fo [] none) λEu=>Lp [none,none,none,none] [] [.slice none 5 0 0 true,.slice none 5 0 0 true,.undef,.undef] (j6 (Ai Eu) (mJ (d+0) q6)) <| Fn Fo [] none)
def FQ (a:aC) (bg:aC):Option (Bool) :=
 cond (a.dR==bg.dR) (cond (a.Epoch==bg.Epoch) ((fV a.Pairs bg.Pairs).bind λ(x1:Bool)=>cond x1 ((fZ a.dN bg.dN).bind λ(x2:Bool)=>some x2) (some false)) (some false)) (some false)
def Rz (a:aC) (bg:aC) (r:Bool):AV×WH:=((.bool r),[])
theorem ahE (d:Nat) {a:aC} {bg:aC} {r:Bool} (h:FQ a bg=some r):Spec (aF aH (d+2)) 62 [(.agg (bK a)),(.agg (bK bg))] [] (Rz a bg r).1 (Rz a bg r).2:=by
 unfold FQ at h
 exact aZ nB ay0 h (.br 10 (λ_=>.br 17 (λ_=>.bd λx1 q1=>Cb [.slice none 2 0 0 true,.slice none 2 0 0 true] (qL (d+0) q1) <| .br 24 (λ_=>.bd λx2 q2=>Cb [.slice none 4 0 0 true,.slice none 4 0 0 true] (qM (d+0) q2) <| Fn Fo [] none) λ_=>Fn Fo [] none) λ_=>Fn Fo [] none) λ_=>Fn Fo [] none)
def BG (a:aM) (bg:aM):Option (Bool) :=
 (Bh a).bind λ(x1:List Int)=>(Bh bg).bind λ(x2:List Int)=>(jS x1 x2).bind λ(x3:Bool)=>cond x3 (cond (a.dL==bg.dL) (cond (a.Fa.Client==bg.Fa.Client&&(a.Fa.Seq==bg.Fa.Seq&&(a.Fa.Op.Kind==bg.Fa.Op.Kind&&(a.Fa.Op.Key==bg.Fa.Op.Key&&(a.Fa.Op.Value==bg.Fa.Op.Value&&(a.Fa.Op.Old==bg.Fa.Op.Old&&true)))))) (cond (a.Answer.Why==bg.Answer.Why&&(a.Answer.Value==bg.Answer.Value&&true)) ((jS a.Path bg.Path).bind λ(x4:Bool)=>cond x4 ((iH a.Table bg.Table).bind λ(x5:Bool)=>cond x5 ((FQ a.mZ bg.mZ).bind λ(x6:Bool)=>some x6) (some false)) (some false)) (some false)) (some false)) (some false)) (some false)
def UU (a:aM) (bg:aM) (r:Bool):AV×WH:=((.bool r),[])
theorem SF (d:Nat) {a:aM} {bg:aM} {r:Bool} (h:BG a bg=some r):Spec (aF aH (d+3)) 13 [(.agg (dh a)),(.agg (dh bg))] [] (UU a bg r).1 (UU a bg r).2:=by
 unfold BG at h
 exact aZ nB ayt h (.bd λx1 q1=>Cl [] Fo [.agg [.undef,.undef,.undef,.undef,.undef,.undef,.undef,.undef,.undef,.undef,.undef,.undef,.undef,.undef,.undef,.undef,.undef,.slice none 1 0 0 true,.slice none 5 0 0 true,.undef,.undef,.slice none 2 0 0 true,.slice none 4 0 0 true]] (LV (d+1) q1) <| .bd λx2 q2=>Cl [] Fo [.agg [.undef,.undef,.undef,.undef,.undef,.undef,.undef,.undef,.undef,.undef,.undef,.undef,.undef,.undef,.undef,.undef,.undef,.slice none 1 0 0 true,.slice none 5 0 0 true,.undef,.undef,.slice none 2 0 0 true,.slice none 4 0 0 true]] (LV (d+1) q2) <| .bd λx3 q3=>iN (BF (d+1) q3) <| .br 10 (λ_=>.br 17 (λ_=>.br 24 (λ_=>.br 31 (λ_=>.bd λx4 q4=>iN (BF (d+1) q4) <| .br 38 (λ_=>.bd λx5 q5=>Cb [.slice none 5 0 0 true,.slice none 5 0 0 true] (zL (d+1) q5) <| .br 45 (λ_=>.bd λx6 q6=>Cb [.agg [.undef,.undef,.slice none 2 0 0 true,.slice none 4 0 0 true],.agg [.undef,.undef,.slice none 2 0 0 true,.slice none 4 0 0 true]] (ahE (d+0) q6) <| Fn Fo [] none) λ_=>Fn Fo [] none) λ_=>Fn Fo [] none) λ_=>Fn Fo [] none) λ_=>Fn Fo [] none) λ_=>Fn Fo [] none) λ_=>Fn Fo [] none)
def tN (a:List aA) (bg:List aA) (s3:Int):List AV×WH:=([(eP a),(eP bg),(.int .i64 s3)],[])
def yx (a:List aA) (bg:List aA):Unit⊕Unit→Ex×Fast×WH:=fun
 | .inl e=>(.ret,[(4,(.bool false))],[])
 | .inr e=>((.exit 0),[],[])
abbrev SG (a:List aA) (bg:List aA):=dF [0,1,5] (tN a bg) (yx a bg)
def qP (a:List aA) (bg:List aA) (s3:Int):Option ((Int)⊕(Unit⊕Unit)) :=
 cond (decide (s3 < (a.length:Int))) ((bV a s3).bind λ(x4:aA)=>(bV bg s3).bind λ(x5:aA)=>cond (!(x4.Inc==x5.Inc&&(x4.Status==x5.Status&&(x4.qZ==x5.qZ&&(x4.Load==x5.Load&&(x4.dL==x5.dL&&true)))))) (some (.inr (.inl ()))) (some (.inl (IntKind.i64.wrap (s3+1))))) (some (.inr (.inr ())))
def EH (a:List aA) (bg:List aA) (s3:Int):Option (Unit⊕Unit):=bQ (qP a bg) KK s3
theorem UW (d:Nat) {a:List aA} {bg:List aA} {s3:Int} {r:(Int)⊕(Unit⊕Unit)} (h:qP a bg s3=some r):bN (aV (aF aH (d+0)) KK 26 ai3) 0 (jJ [0,1,5] (tN a bg s3)) (SG a bg r):=by
 unfold qP at h
 exact bC nB alJ h (.br 14 (λ_=>.bd λx4 q4=>Ix kK 19 q4 <| .bd λx5 q5=>Ix kK 23 q5 <| .br 25 (λ_=>E0 [4]) λ_=>E1 [0,1,5] [none,none,none] [] [.slice none 5 0 0 true,.slice none 5 0 0 true,.undef]) λ_=>E0 [])
theorem I8 (d:Nat) {a:List aA} {bg:List aA} {s3:Int} {r:Unit⊕Unit} (h:EH a bg s3=some r):bN (eY (aV (aF aH (d+0)) KK 26 ai3) [0,1,5] KK) 0 (jJ [0,1,5] (tN a bg s3)) (yx a bg r) :=
 cO (st:=tN a bg) (fin:=yx a bg) (step:=qP a bg) (λe=>by rcases e with e | e<;>(intro h;cases h)) (λs x h=>UW d h) KK s3 r h
def BH (a:List aA) (bg:List aA):Option (Bool) :=
 cond ((a.length:Int) != (bg.length:Int)) (some false) ((EH a bg 0).bind λ(x6:Unit⊕Unit)=>cond (jO x6) (some false) (some true))
def KT (a:List aA) (bg:List aA) (r:Bool):AV×WH:=((.bool r),[])
theorem aa1 (d:Nat) {a:List aA} {bg:List aA} {r:Bool} (h:BH a bg=some r):Spec (aF aH (d+1)) 63 [(eP a),(eP bg)] [] (KT a bg r).1 (KT a bg r).2:=by
 unfold BH at h
 exact aZ nB ay1 h (.br 10 (λ_=>Fn Fo [] none) λ_=>.bd λx6 q6=>.ite (λEu=>Lp [none,none,none] [] [.slice none 5 0 0 true,.slice none 5 0 0 true,.undef] (j6 (il Eu) (I8 (d+0) q6)) <| Fn Fo [] none) λEu=>Lp [none,none,none] [] [.slice none 5 0 0 true,.slice none 5 0 0 true,.undef] (j6 (Ai Eu) (I8 (d+0) q6)) <| Fn Fo [] none)
abbrev WO (a:aM) (bg:aM):Fast×WH:=([(2,(.ptr (some (0,0)))),(3,(.ptr (some (1,0))))],[(some (.cells (dh a) false false)),(some (.cells (dh bg) false false))])
def UY (a:aM) (bg:aM):Unit⊕Unit→Ex×Fast×WH:=fun
 | .inl e=>(.ret,[(4,(.bool false))],[])
 | .inr e=>(.normal,[(2,(.ptr (some (0,0)))),(3,(.ptr (some (1,0))))],[(some (.cells (dh a) false false)),(some (.cells (dh bg) false false))])
def Dm (a:aM) (bg:aM):Option (Unit⊕Unit) :=
 cond (a.Kind != bg.Kind) (some (.inl ())) (cond (a.From != bg.From) (some (.inl ())) (cond (a.To != bg.To) (some (.inl ())) (cond (a.dR != bg.dR) (some (.inl ())) (cond (a.Epoch != bg.Epoch) (some (.inl ())) (cond (a.Weight != bg.Weight) (some (.inl ())) (cond (a.Load != bg.Load) (some (.inl ())) (cond (a.kT != bg.kT) (some (.inl ())) (cond (!(a.dL==bg.dL)) (some (.inl ())) (cond (!(a.Fa.Client==bg.Fa.Client&&(a.Fa.Seq==bg.Fa.Seq&&(a.Fa.Op.Kind==bg.Fa.Op.Kind&&(a.Fa.Op.Key==bg.Fa.Op.Key&&(a.Fa.Op.Value==bg.Fa.Op.Value&&(a.Fa.Op.Old==bg.Fa.Op.Old&&true))))))) (some (.inl ())) (cond (!(a.Answer.Why==bg.Answer.Why&&(a.Answer.Value==bg.Answer.Value&&true))) (some (.inl ())) (cond ((a.Path.length:Int) != (bg.Path.length:Int)) (some (.inl ())) ((BH a.Table bg.Table).bind λ(x1:Bool)=>cond (!x1) (some (.inl ())) (some (.inr ()))))))))))))))
theorem M5 (d:Nat) {a:aM} {bg:aM} {r:Unit⊕Unit} (h:Dm a bg=some r):bN (aV (aF aH (d+1)) KK 121 akF) 0 (WO a bg) (UY a bg r):=by
 unfold Dm at h
 exact bC nB aiN h (.br 11 (λ_=>E0 [4]) λ_=>.br 18 (λ_=>E0 [4]) λ_=>.br 25 (λ_=>E0 [4]) λ_=>.br 32 (λ_=>E0 [4]) λ_=>.br 39 (λ_=>E0 [4]) λ_=>.br 46 (λ_=>E0 [4]) λ_=>.br 53 (λ_=>E0 [4]) λ_=>.br 60 (λ_=>E0 [4]) λ_=>.br 67 (λ_=>E0 [4]) λ_=>.br 74 (λ_=>E0 [4]) λ_=>.br 81 (λ_=>E0 [4]) λ_=>.br 90 (λ_=>E0 [4]) λ_=>.bd λx1 q1=>Cb [.slice none 5 0 0 true,.slice none 5 0 0 true] (aa1 (d+0) q1) <| .br 97 (λ_=>E0 [4]) λ_=>E0 [2,3])
def xJ (a:aM) (bg:aM) (s6:Int):List AV×WH:=([(.ptr (some (0,0))),(.ptr (some (1,0))),(.int .i64 s6)],[(some (.cells (dh a) false false)),(some (.cells (dh bg) false false))])
def BI (a:aM) (bg:aM):Unit⊕Unit→Ex×Fast×WH:=fun
 | .inl e=>(.ret,[(4,(.bool false))],[])
 | .inr e=>((.exit 0),[(2,(.ptr (some (0,0)))),(3,(.ptr (some (1,0))))],[(some (.cells (dh a) false false)),(some (.cells (dh bg) false false))])
abbrev WQ (a:aM) (bg:aM):=dF [2,3,5] (xJ a bg) (BI a bg)
def uw (a:aM) (bg:aM) (s6:Int):Option ((Int)⊕(Unit⊕Unit)) :=
 cond (decide (s6 < (a.Path.length:Int))) ((bV a.Path s6).bind λ(x7:Int)=>(bV bg.Path s6).bind λ(x8:Int)=>cond (x7 != x8) (some (.inr (.inl ()))) (some (.inl (IntKind.i64.wrap (s6+1))))) (some (.inr (.inr ())))
def JL (a:aM) (bg:aM) (s6:Int):Option (Unit⊕Unit):=bQ (uw a bg) KK s6
theorem YG (d:Nat) {a:aM} {bg:aM} {s6:Int} {r:(Int)⊕(Unit⊕Unit)} (h:uw a bg s6=some r):bN (aV (aF aH (d+0)) KK 121 aiO) 0 (jJ [2,3,5] (xJ a bg s6)) (WQ a bg r):=by
 unfold uw at h
 exact bC nB alv h (.br 102 (λ_=>.bd λx7 q7=>Ix IB 108 q7 <| .bd λx8 q8=>Ix IB 113 q8 <| .br 115 (λ_=>E0 [4]) λ_=>E0 [2,3,5]) λ_=>E0 [2,3])
theorem M6 (d:Nat) {a:aM} {bg:aM} {s6:Int} {r:Unit⊕Unit} (h:JL a bg s6=some r):bN (eY (aV (aF aH (d+0)) KK 121 aiO) [2,3,5] KK) 0 (jJ [2,3,5] (xJ a bg s6)) (BI a bg r) :=
 cO (st:=xJ a bg) (fin:=BI a bg) (step:=uw a bg) (λe=>by rcases e with e | e<;>(intro h;cases h)) (λs x h=>YG d h) KK s6 r h
def zM (a:aM) (bg:aM):Option (Bool) :=
 (Dm a bg).bind λ(x2:Unit⊕Unit)=>cond (jO x2) (some false) ((JL a bg 0).bind λ(x9:Unit⊕Unit)=>cond (jO x9) (some false) ((qI a.mZ bg.mZ).bind λ(bY:Bool)=>some bY))
def Pj (a:aM) (bg:aM) (r:Bool):AV×WH:=((.bool r),[])
theorem UZ (d:Nat) {a:aM} {bg:aM} {r:Bool} (h:zM a bg=some r):Spec (aF aH (d+2)) 14 [(.agg (dh a)),(.agg (dh bg))] [] (Pj a bg r).1 (Pj a bg r).2:=by
 unfold zM at h
 exact aZ nB ayu h (.sk <| .bd λx2 q2=>.ite (λhb3=>Jn [2,3] [none,none] [] [] (j6 (il hb3) (M5 (d+0) q2)) <| Fn Fo [] none) λhb3=>Jn [2,3] [none,none] [] [] (j6 (Ai hb3) (M5 (d+0) q2)) <| .bd λx9 q9=>.ite (λajN=>Lp [none,none,none] [] [] (j6 (il ajN) (M6 (d+1) q9)) <| Fn Fo [] none) λajN=>Lp [none,none,none] [] [] (j6 (Ai ajN) (M6 (d+1) q9)) <| .bd λbY Hz=>Cb [.agg [.undef,.undef,.slice none 2 0 0 true,.slice none 4 0 0 true],.agg [.undef,.undef,.slice none 2 0 0 true,.slice none 4 0 0 true]] (OP (d+0) Hz) <| Fn Fo [] none)
def Pk (bg:List UInt8) (n:Int):Option (List UInt8) :=
 cond (decide ((bg.length:Int) > n)) ((MF bg 0 n).bind λ(x1:List UInt8)=>gd (dx 1 x1.length) (some x1)) (gd (dx 1 bg.length) (some bg))
def U0 (bg:List UInt8) (n:Int) (r:List UInt8):AV×WH:=((.acc 0 0 1 r.length true),[(some (.cells (DF r) false true))])
theorem ajO (d:Nat) {bg:List UInt8} {n:Int} {r:List UInt8} (h:Pk bg n=some r):Spec (aF aH (d+1)) 15 [(kS bg),(.int .i64 n)] [] (U0 bg n r).1 (U0 bg n r).2:=by
 unfold Pk at h
 exact aZ nB ayv h (.br 8 (λ_=>.bd λx1 q1=>Si LA 11 q1 <| .gd λq2=>Ap0 LA 14 q2 <| Fn none [] none) λ_=>.gd λq3=>Ap0 LA 14 q3 <| Fn none [] none)
def Ea (c:UInt8):Option (Bool) :=
 some (((Af (E9 .u8 (c.toNat:Int) 128)).toNat:Int)==0)
def M7 (c:UInt8) (r:Bool):AV×WH:=((.bool r),[])
theorem acz (d:Nat) {c:UInt8} {r:Bool} (h:Ea c=some r):Spec (aF aH (d+1)) 144 [(.int .u8 (c.toNat:Int))] [] (M7 c r).1 (M7 c r).2:=by
 unfold Ea at h
 exact aZ nB axE h (.v 4 (.int .u8 ((Af (E9 .u8 (c.toNat:Int) 128)).toNat:Int)) <| .ob (anh rfl:@Eq (Option AV) (some (.int .u8 (E9 .u8 (c.toNat:Int) 128))) (some (.int .u8 ((Af (E9 .u8 (c.toNat:Int) 128)).toNat:Int)))) <| Fn Fo [] none)
def iI (a0:List UInt8) (s3:Int):List AV×WH:=([(kS a0),(.func 144 []),(.int .i64 (a0.length:Int)),(.int .i64 s3)],[])
def jY (a0:List UInt8):Int⊕Unit→Ex×Fast×WH:=fun
 | .inl e=>(.ret,[(4,(.int .i64 e))],[])
 | .inr e=>((.exit 0),[],[])
abbrev BJ (a0:List UInt8):=dF [0,1,7,8] (iI a0) (jY a0)
def gV (a0:List UInt8) (s3:Int):Option ((Int)⊕(Int⊕Unit)) :=
 cond (decide (s3 < (a0.length:Int))) ((bV a0 s3).bind λ(x4:UInt8)=>(Ea x4).bind λ(x5:Bool)=>cond x5 (some (.inr (.inl s3))) (some (.inl (IntKind.i64.wrap (s3+1))))) (some (.inr (.inr ())))
def mg (a0:List UInt8) (s3:Int):Option (Int⊕Unit):=bQ (gV a0) KK s3
theorem Ce (d:Nat) {a0:List UInt8} {s3:Int} {r:(Int)⊕(Int⊕Unit)} (h:gV a0 s3=some r):bN (aV (aF aH (d+1)) KK 19 aeY) 0 (jJ [0,1,7,8] (iI a0 s3)) (BJ a0 r):=by
 unfold gV at h
 exact bC nB ajA h (.br 9 (λ_=>.bd λx4 q4=>Ix LA 14 q4 <| .bd λx5 q5=>iN (acz (d+0) q5) <| .br 16 (λ_=>E0 [4]) λ_=>E0 [0,1,7,8]) λ_=>E0 [])
theorem rz (d:Nat) {a0:List UInt8} {s3:Int} {r:Int⊕Unit} (h:mg a0 s3=some r):bN (eY (aV (aF aH (d+1)) KK 19 aeY) [0,1,7,8] KK) 0 (jJ [0,1,7,8] (iI a0 s3)) (jY a0 r) :=
 cO (st:=iI a0) (fin:=jY a0) (step:=gV a0) (λe=>by rcases e with e | e<;>(intro h;cases h)) (λs x h=>Ce d h) KK s3 r h
def iR (a0:List UInt8):Option (Int) :=
 (mg a0 0).bind λ(x6:Int⊕Unit)=>cond (jO x6) (some (zA x6)) (some (-1))
def rZ (a0:List UInt8) (r:Int):AV×WH:=((.int .i64 r),[])
theorem EI (d:Nat) {a0:List UInt8} {r:Int} (h:iR a0=some r):Spec (aF aH (d+2)) 143 [(kS a0),(.func 144 [])] [] (rZ a0 r).1 (rZ a0 r).2:=by
 unfold iR at h
 exact aZ nB axD h (.bd λx6 q6=>.ite (λEu=>Lp [none,none,none,none] [] [] (j6 (il Eu) (rz (d+0) q6)) <| Fn Fo [] none) λEu=>Lp [none,none,none,none] [] [] (j6 (Ai Eu) (rz (d+0) q6)) <| Fn Fo [] none)
abbrev YH (x1:Int) (bg:List UInt8):Fast×WH:=([(0,(kS bg)),(2,(.int .i64 0)),(5,(.int .i64 x1))],[])
def WR (x1:Int) (bg:List UInt8):Unit⊕Unit→Ex×Fast×WH:=fun
 | .inl e=>(.ret,[(2,(.int .i64 0)),(3,(.int .i64 0)),(4,(.int .i64 2))],[])
 | .inr e=>(.normal,[(0,(kS bg)),(2,(.int .i64 0)),(5,(.int .i64 x1))],[])
def BK (x1:Int) (bg:List UInt8):Option (Unit⊕Unit) :=
 cond (decide (x1≥9)) (some (.inl ())) (cond (decide (x1 > 0)) ((bV bg x1).bind λ(x2:UInt8)=>cond ((x2.toNat:Int)==0) (some (.inl ())) (some (.inr ()))) (some (.inr ())))
theorem Pm (d:Nat) {x1:Int} {bg:List UInt8} {r:Unit⊕Unit} (h:BK x1 bg=some r):bN (aV (aF aH (d+0)) KK 47 aap) 0 (YH x1 bg) (WR x1 bg r):=by
 unfold BK at h
 exact bC nB abW h (.br 13 (λ_=>E0 [2,3,4]) λ_=>.br 16 (λ_=>.bd λx2 q2=>Ix LA 19 q2 <| .br 23 (λ_=>E0 [2,3,4]) λ_=>E0 [0,2,5]) λ_=>E0 [0,2,5])
def zl (bg:List UInt8) (x1:Int) (s6:Int×Int):List AV×WH:=([(kS bg),(.int .i64 s6.1),(.int .i64 x1),(.int .i64 s6.2)],[])
def CU (bg:List UInt8) (x1:Int):Int→Ex×Fast×WH:=λe=>((.exit 0),[(2,(.int .i64 e)),(5,(.int .i64 x1))],[])
abbrev YI (bg:List UInt8) (x1:Int):=dF [0,2,5,6] (zl bg x1) (CU bg x1)
def wD (bg:List UInt8) (x1:Int) (s6:Int×Int):Option ((Int×Int)⊕(Int)) :=
 cond (decide (s6.2≥0)) ((bV bg s6.2).bind λ(x7:UInt8)=>some (.inl ((orI .i64 (aro .i64 s6.1 7) (IntKind.i64.wrap ((Af (E9 .u8 (x7.toNat:Int) 127)).toNat:Int))),(IntKind.i64.wrap (s6.2 - 1))))) (some (.inr s6.1))
def Fy (bg:List UInt8) (x1:Int) (s6:Int×Int):Option (Int):=bQ (wD bg x1) KK s6
theorem aa2 (d:Nat) {bg:List UInt8} {x1:Int} {s6:Int×Int} {r:(Int×Int)⊕(Int)} (h:wD bg x1 s6=some r):bN (aV (aF aH (d+0)) KK 47 aeX) 0 (jJ [0,2,5,6] (zl bg x1 s6)) (YI bg x1 r):=by
 unfold wD at h
 exact bC nB ajz h (.br 26 (λ_=>.bd λx7 q7=>Ix LA 33 q7 <| .v 35 (.int .u8 ((Af (E9 .u8 (x7.toNat:Int) 127)).toNat:Int)) <| .ob (anh rfl:@Eq (Option AV) (some (.int .u8 (E9 .u8 (x7.toNat:Int) 127))) (some (.int .u8 ((Af (E9 .u8 (x7.toNat:Int) 127)).toNat:Int)))) <| E0 [0,2,5,6]) λ_=>E0 [2,5])
theorem aa3 (d:Nat) {bg:List UInt8} {x1:Int} {s6:Int×Int} {r:Int} (h:Fy bg x1 s6=some r):bN (eY (aV (aF aH (d+0)) KK 47 aeX) [0,2,5,6] KK) 0 (jJ [0,2,5,6] (zl bg x1 s6)) (CU bg x1 r) :=
 cO (st:=zl bg x1) (fin:=CU bg x1) (step:=wD bg x1) (λe=>by (intro h;cases h)) (λs x h=>aa2 d h) KK s6 r h
abbrev YJ (x8:Int) (x1:Int):Fast×WH:=([(2,(.int .i64 x8)),(5,(.int .i64 x1))],[])
def WS (x8:Int) (x1:Int):Unit⊕Unit→Ex×Fast×WH:=fun
 | .inl e=>(.ret,[(2,(.int .i64 0)),(3,(.int .i64 0)),(4,(.int .i64 2))],[])
 | .inr e=>(.normal,[(2,(.int .i64 x8)),(5,(.int .i64 x1))],[])
def Fz (x8:Int) (x1:Int):Option (Unit⊕Unit) :=
 cond (decide (x8 < 0)) (some (.inl ())) (cond (decide (x8 > 4611686018427387903)) (some (.inl ())) (some (.inr ())))
theorem Pn (d:Nat) {x8:Int} {x1:Int} {r:Unit⊕Unit} (h:Fz x8 x1=some r):bN (aV (aF aH (d+0)) KK 47 Uh) 0 (YJ x8 x1) (WS x8 x1 r):=by
 unfold Fz at h
 exact bC nB Yc h (.br 40 (λ_=>E0 [2,3,4]) λ_=>.br 43 (λ_=>E0 [2,3,4]) λ_=>E0 [2,5])
def CV (bg:List UInt8):Option (Int×Int×Int) :=
 (iR bg).bind λ(x1:Int)=>cond (decide (x1 < 0)) (some (0,0,3)) ((BK x1 bg).bind λ(x3:Unit⊕Unit)=>cond (jO x3) (some (0,0,2)) ((Fy bg x1 (0,x1)).bind λ(x8:Int)=>(Fz x8 x1).bind λ(x9:Unit⊕Unit)=>cond (jO x9) (some (0,0,2)) (some (x8,(IntKind.i64.wrap (x1+1)),0))))
def RA (bg:List UInt8) (r:Int×Int×Int):AV×WH:=((.tuple [(.int .i64 r.1),(.int .i64 r.2.1),(.int .i64 r.2.2)]),[])
theorem Po (d:Nat) {bg:List UInt8} {r:Int×Int×Int} (h:CV bg=some r):Spec (aF aH (d+3)) 139 [(kS bg)] [] (RA bg r).1 (RA bg r).2:=by
 unfold CV at h
 exact aZ nB axz h (.bd λx1 q1=>iN (EI (d+0) q1) <| .br 10 (λ_=>Fn Fo [] none) λ_=>.bd λx3 q3=>.ite (λhb4=>Jn [0,2,5] [none,none,none] [] [] (j6 (il hb4) (Pm (d+2) q3)) <| Fn Fo [] none) λhb4=>Jn [0,2,5] [none,none,none] [] [] (j6 (Ai hb4) (Pm (d+2) q3)) <| .bd λx8 q8=>Lp [none,none,none,none] [] [] (aa3 (d+2) q8) <| .bd λx9 q9=>.ite (λajN=>Jn [2,5] [none,none] [] [] (j6 (il ajN) (Pn (d+2) q9)) <| Fn Fo [] none) λajN=>Jn [2,5] [none,none] [] [] (j6 (Ai ajN) (Pn (d+2) q9)) <| Fn Fo [] none)
def Eb (bg:List UInt8):Option (List UInt8) :=
 gd (dx 1 bg.length) (some bg)
def U1 (bg:List UInt8) (r:List UInt8):AV×WH:=((kS r),[])
theorem SH (d:Nat) {bg:List UInt8} {r:List UInt8} (h:Eb bg=some r):Spec (aF aH (d+2)) 140 [(kS bg)] [] (U1 bg r).1 (U1 bg r).2:=by
 unfold Eb at h
 exact aZ (MK _) axA h (.gd λq1=>.ob q1 <| Fn Fo [] none)
def xK (count:Int) (bg:List UInt8) (s7:Int×Int×List Int):List AV×WH:=([(kS bg),(.acc 0 0 1 s7.2.2.length true),(.int .i64 s7.1),(.int .i64 (if count > 0 then count else 0)),(.int .i64 s7.2.1)],[(some (.cells (sF s7.2.2) false true))])
def BM (count:Int) (bg:List UInt8):Int⊕(Int×List Int)→Ex×Fast×WH:=fun
 | .inl e=>(.ret,[(4,(.slice none 1 0 0 true)),(5,(.slice none 1 0 0 true)),(6,(.int .i64 e))],[])
 | .inr e=>((.exit 0),[(0,(kS bg)),(4,(.acc 0 0 1 e.2.length true)),(7,(.int .i64 e.1))],[(some (.cells (sF e.2) false true))])
abbrev WT (count:Int) (bg:List UInt8):=dF [0,4,7,12,13] (xK count bg) (BM count bg)
def jI (count:Int) (bg:List UInt8) (s7:Int×Int×List Int):Option ((Int×Int×List Int)⊕(Int⊕(Int×List Int))) :=
 cond (decide (s7.2.1 < (if count > 0 then count else 0))) ((MF bg s7.1 bg.length).bind λ(x8:List UInt8)=>(CV x8).bind λ(x9:Int×Int×Int)=>cond (x9.2.2 != 0) (some (.inr (.inl x9.2.2))) (gd (dx 8 (s7.2.2++[x9.1]).length) (some (.inl ((IntKind.i64.wrap (s7.1+x9.2.1)),(IntKind.i64.wrap (s7.2.1+1)),(s7.2.2++[x9.1])))))) (some (.inr (.inr (s7.1,s7.2.2))))
def JM (count:Int) (bg:List UInt8) (s7:Int×Int×List Int):Option (Int⊕(Int×List Int)):=bQ (jI count bg) KK s7
theorem YK (d:Nat) {count:Int} {bg:List UInt8} {s7:Int×Int×List Int} {r:(Int×Int×List Int)⊕(Int⊕(Int×List Int))} (h:jI count bg s7=some r):bN (aV (aF aH (d+3)) KK 40 aeR) 0 (jJ [0,4,7,12,13] (xK count bg s7)) (WT count bg r):=by
 unfold jI at h
 exact bC nB ajt h (.br 14 (λ_=>.bd λx8 q8=>Sl LA 18 q8 <| .bd λx9 q9=>iN (Po (d+0) q9) <| .br 24 (λ_=>E0 [4,5,6]) λ_=>.gd λJ_=>Ap IB 29 J_ <| E0 [0,4,7,12,13]) λ_=>E0 [0,4,7])
theorem M8 (d:Nat) {count:Int} {bg:List UInt8} {s7:Int×Int×List Int} {r:Int⊕(Int×List Int)} (h:JM count bg s7=some r):bN (eY (aV (aF aH (d+3)) KK 40 aeR) [0,4,7,12,13] KK) 0 (jJ [0,4,7,12,13] (xK count bg s7)) (BM count bg r) :=
 cO (st:=xK count bg) (fin:=BM count bg) (step:=jI count bg) (λe=>by rcases e with e | e<;>(intro h;cases h)) (λs x h=>YK d h) KK s7 r h
def zN (bg:List UInt8) (count:Int):Option (List Int×List UInt8×Int) :=
 (JM count bg (0,0,[])).bind λ(bY:Int⊕(Int×List Int))=>cond (jO bY) (some ([],[],(zA bY))) ((MF bg (X8 bY).1 bg.length).bind λ(qE:List UInt8)=>(Eb qE).bind λ(m_:List UInt8)=>some ((X8 bY).2,m_,0))
def Pp (bg:List UInt8) (count:Int) (r:List Int×List UInt8×Int):AV×WH:=((.tuple [(J9 r.1),(kS r.2.1),(.int .i64 r.2.2)]),[])
theorem L6 (d:Nat) {bg:List UInt8} {count:Int} {r:List Int×List UInt8×Int} (h:zN bg count=some r):Spec (aF aH (d+4)) 122 [(kS bg),(.int .i64 count)] [] (Pp bg count r).1 (Pp bg count r).2:=by
 unfold zN at h
 exact aZ (MK _) axk h (.bd λbY Hz=>.ite (λR9=>Lp [none,Tw,none,none,none] [] [] (j6 (il R9) (M8 (d+0) Hz)) <| Fn Fo [] none) λR9=>Lp [none,Tw,none,none,none] [] [] (j6 (Ai R9) (M8 (d+0) Hz)) <| .bd λqE Yf=>Sl LA 38 Yf <| .bd λm_ ND=>Cl [] Fo [] (SH (d+1) ND) <| Fn Fo [] none)
def dY (count:Int) (p_r:aJ):Option (List Int×aJ) :=
 gd (agk 8 count) (cond (p_r.e==0) ((zN p_r.b count).bind λ(x2:List Int×List UInt8×Int)=>cond (x2.2.2==0) (some (x2.1,(⟨x2.2.1,x2.2.2⟩:aJ))) (some ((List.replicate count.toNat (0:Int)),(⟨x2.2.1,x2.2.2⟩:aJ)))) (some ((List.replicate count.toNat (0:Int)),p_r)))
def fA (count:Int) (p_r:aJ) (r:List Int×aJ):AV×WH:=((J9 r.1),[(some (.cells (fH r.2) false false))])
theorem qQ (d:Nat) {count:Int} {p_r:aJ} {r:List Int×aJ} (h:dY count p_r=some r):Spec (aF aH (d+5)) 98 [(.ptr (some (0,0))),(.int .i64 count)] [(some (.cells (fH p_r) false false))] (fA count p_r r).1 (fA count p_r r).2:=by
 unfold dY at h
 exact aZ nB azt h (.gd λq1=>.ap 8 count.toNat (sF (List.replicate count.toNat (0:Int))) <| .ob (anj (n:=count) q1:wMk (.int .i64 count) (.int .i64 count) count.toNat 8) <| .ob (agj (x:=(0:Int)) IB rfl _:kN count.toNat [(.int .i64 0)]=sF (List.replicate count.toNat (0:Int))) <| .br 13 (λ_=>.bd λx2 q2=>Cl [] Fo [] (L6 (d+0) q2) <| .st none <| .st none <| .br 34 (λ_=>Fn Fo [] none) λ_=>.xQ (.fin (some false) [] none) _ (λr=>@Eq AV (.list 1 count.toNat (sF (List.replicate count.toNat (0:Int))) false) (fA count p_r r).1∧@Eq WH [(some (.cells (fH (⟨x2.2.1,x2.2.2⟩:aJ)) false false))] (fA count p_r r).2) (by show _∧_;refine ⟨?_, ?_⟩<;>first | rfl | (simp only [fA,List.length_set,List.length_append,List.length_replicate,List.length_cons,List.length_nil,List.length_take,List.length_drop,Nat.add_zero,Nat.zero_add];done) | simp [fA,J9])) λ_=>.xQ (.fin (some false) [] none) _ (λr=>@Eq AV (.list 1 count.toNat (sF (List.replicate count.toNat (0:Int))) false) (fA count p_r r).1∧@Eq WH [(some (.cells (fH p_r) false false))] (fA count p_r r).2) (by show _∧_;refine ⟨?_, ?_⟩<;>first | rfl | (simp only [fA,List.length_set,List.length_append,List.length_replicate,List.length_cons,List.length_nil,List.length_take,List.length_drop,Nat.add_zero,Nat.zero_add];done) | simp [fA,J9]))
def fq (most:Int) (p_r:aJ):Option (Int×aJ) :=
 (dY 1 p_r).bind λ(x1:List Int×aJ)=>(bV x1.1 0).bind λ(x2:Int)=>cond (decide (x2 > most)) (some (0,(⟨x1.2.b,2⟩:aJ))) (some (x2,x1.2))
def EW (most:Int) (p_r:aJ) (r:Int×aJ):AV×WH:=((.int .i64 r.1),[(some (.cells (fH r.2) false false))])
theorem vB (d:Nat) {most:Int} {p_r:aJ} {r:Int×aJ} (h:fq most p_r=some r):Spec (aF aH (d+6)) 99 [(.ptr (some (0,0))),(.int .i64 most)] [(some (.cells (fH p_r) false false))] (EW most p_r r).1 (EW most p_r r).2:=by
 unfold fq at h
 exact aZ nB azu h (.bd λx1 q1=>Cl [] Fo [] (qQ (d+0) q1) <| .bd λx2 q2=>Ix IB 8 q2 <| .br 12 (λ_=>.st none <| Fn Fo [] none) λ_=>Fn Fo [] none)
def uH (bg:List UInt8):Option (List UInt8×List UInt8×Int) :=
 (CV bg).bind λ(x1:Int×Int×Int)=>cond (x1.2.2 != 0) (some (([]:List UInt8),[],x1.2.2)) (cond (decide (x1.1 > (IntKind.i64.wrap ((bg.length:Int) - x1.2.1)))) (some (([]:List UInt8),[],3)) ((MF bg (IntKind.i64.wrap (x1.2.1+x1.1)) bg.length).bind λ(x2:List UInt8)=>(Eb x2).bind λ(x3:List UInt8)=>(MF bg x1.2.1 (IntKind.i64.wrap (x1.2.1+x1.1))).bind λ(x4:List UInt8)=>some (x4,x3,0)))
def I9 (bg:List UInt8) (r:List UInt8×List UInt8×Int):AV×WH:=((.tuple [(.str r.1),(kS r.2.1),(.int .i64 r.2.2)]),[])
theorem M9 (d:Nat) {bg:List UInt8} {r:List UInt8×List UInt8×Int} (h:uH bg=some r):Spec (aF aH (d+4)) 125 [(kS bg)] [] (I9 bg r).1 (I9 bg r).2:=by
 unfold uH at h
 exact aZ nB axo h (.bd λx1 q1=>iN (Po (d+0) q1) <| .br 13 (λ_=>Fn Fo [] none) λ_=>.br 17 (λ_=>Fn Fo [] none) λ_=>.bd λx2 q2=>Sl LA 35 q2 <| .bd λx3 q3=>Cl [] Fo [] (SH (d+1) q3) <| .bd λx4 q4=>Sb LA 29 q4 <| .v 30 (.str x4) <| .ob (by rw [show DF x4=(x4).map EP from rfl,DC];rfl:(kg (DF x4)).map AV.str=some (.str x4)) <| Fn Fo [] none)
def vC (count:Int) (s5:List UInt8×Int×List (List UInt8)):List AV×WH:=([(kS s5.1),(.acc 0 0 1 s5.2.2.length true),(.int .i64 count),(.int .i64 s5.2.1)],[(some (.cells (F_S s5.2.2) false true))])
def zO (count:Int):Int⊕(List UInt8×List (List UInt8))→Ex×Fast×WH:=fun
 | .inl e=>(.ret,[(4,(.slice none 1 0 0 true)),(5,(.slice none 1 0 0 true)),(6,(.int .i64 e))],[])
 | .inr e=>((.exit 0),[(0,(kS e.1)),(4,(.acc 0 0 1 e.2.length true))],[(some (.cells (F_S e.2) false true))])
abbrev U2 (count:Int):=dF [0,4,8,9] (vC count) (zO count)
def lD (count:Int) (s5:List UInt8×Int×List (List UInt8)):Option ((List UInt8×Int×List (List UInt8))⊕(Int⊕(List UInt8×List (List UInt8)))) :=
 cond (decide (s5.2.1 < count)) ((uH s5.1).bind λ(x6:List UInt8×List UInt8×Int)=>cond (x6.2.2 != 0) (some (.inr (.inl x6.2.2))) (gd (dx 16 (s5.2.2++[x6.1]).length) (some (.inl (x6.2.1,(IntKind.i64.wrap (s5.2.1+1)),(s5.2.2++[x6.1])))))) (some (.inr (.inr (s5.1,s5.2.2))))
def GV (count:Int) (s5:List UInt8×Int×List (List UInt8)):Option (Int⊕(List UInt8×List (List UInt8))):=bQ (lD count) KK s5
theorem WU (d:Nat) {count:Int} {s5:List UInt8×Int×List (List UInt8)} {r:(List UInt8×Int×List (List UInt8))⊕(Int⊕(List UInt8×List (List UInt8)))} (h:lD count s5=some r):bN (aV (aF aH (d+4)) KK 27 aeS) 0 (jJ [0,4,8,9] (vC count s5)) (U2 count r):=by
 unfold lD at h
 exact bC nB aju h (.br 10 (λ_=>.bd λx6 q6=>Cl [] Fo [] (M9 (d+0) q6) <| .br 18 (λ_=>E0 [4,5,6]) λ_=>.gd λq7=>Ap R_S 23 q7 <| E0 [0,4,8,9]) λ_=>E0 [0,4])
theorem KU (d:Nat) {count:Int} {s5:List UInt8×Int×List (List UInt8)} {r:Int⊕(List UInt8×List (List UInt8))} (h:GV count s5=some r):bN (eY (aV (aF aH (d+4)) KK 27 aeS) [0,4,8,9] KK) 0 (jJ [0,4,8,9] (vC count s5)) (zO count r) :=
 cO (st:=vC count) (fin:=zO count) (step:=lD count) (λe=>by rcases e with e | e<;>(intro h;cases h)) (λs x h=>WU d h) KK s5 r h
def Ac (bg:List UInt8) (count:Int):Option (List (List UInt8)×List UInt8×Int) :=
 (GV count (bg,0,[])).bind λ(x8:Int⊕(List UInt8×List (List UInt8)))=>cond (jO x8) (some ([],[],(zA x8))) (some ((X8 x8).2,(X8 x8).1,0))
def M_ (bg:List UInt8) (count:Int) (r:List (List UInt8)×List UInt8×Int):AV×WH:=((.tuple [(l_S r.1),(kS r.2.1),(.int .i64 r.2.2)]),[])
theorem RB (d:Nat) {bg:List UInt8} {count:Int} {r:List (List UInt8)×List UInt8×Int} (h:Ac bg count=some r):Spec (aF aH (d+5)) 123 [(kS bg),(.int .i64 count)] [] (M_ bg count r).1 (M_ bg count r).2:=by
 unfold Ac at h
 exact aZ nB axl h (.bd λx8 q8=>.ite (λhb9=>Lp [none,Tw,none,none] [] [] (j6 (il hb9) (KU (d+0) q8)) <| Fn Fo [] none) λhb9=>Lp [none,Tw,none,none] [] [] (j6 (Ai hb9) (KU (d+0) q8)) <| Fn Fo [] none)
def qY (bg:List UInt8):Option (aU×List UInt8×Int) :=
 (zN bg 3).bind λ(x1:List Int×List UInt8×Int)=>cond (x1.2.2 != 0) (some ((⟨0,0,(⟨0,([]:List UInt8),([]:List UInt8),([]:List UInt8)⟩:bE)⟩:aU),[],x1.2.2)) ((Ac x1.2.1 3).bind λ(x2:List (List UInt8)×List UInt8×Int)=>cond (x2.2.2 != 0) (some ((⟨0,0,(⟨0,([]:List UInt8),([]:List UInt8),([]:List UInt8)⟩:bE)⟩:aU),[],x2.2.2)) ((bV x1.1 0).bind λ(x3:Int)=>(bV x1.1 1).bind λ(x4:Int)=>(bV x1.1 2).bind λ(x5:Int)=>(bV x2.1 0).bind λ(x6:List UInt8)=>(bV x2.1 1).bind λ(x7:List UInt8)=>(bV x2.1 2).bind λ(x8:List UInt8)=>(oo (⟨x3,x4,(⟨x5,x6,x7,x8⟩:bE)⟩:aU)).bind λ(x9:Bool)=>cond (!x9) (some ((⟨0,0,(⟨0,([]:List UInt8),([]:List UInt8),([]:List UInt8)⟩:bE)⟩:aU),[],2)) (some ((⟨x3,x4,(⟨x5,x6,x7,x8⟩:bE)⟩:aU),x2.2.1,0))))
def I_ (bg:List UInt8) (r:aU×List UInt8×Int):AV×WH:=((.tuple [(.agg (uE r.1)),(kS r.2.1),(.int .i64 r.2.2)]),[])
theorem YL (d:Nat) {bg:List UInt8} {r:aU×List UInt8×Int} (h:qY bg=some r):Spec (aF aH (d+6)) 100 [(kS bg)] [] (I_ bg r).1 (I_ bg r).2:=by
 unfold qY at h
 exact aZ nB aw3 h (.bd λx1 q1=>Cl [] Fo [] (L6 (d+1) q1) <| .br 14 (λ_=>.st none <| Fn Fo [] none) λ_=>.bd λx2 q2=>Cl [] Fo [] (RB (d+0) q2) <| .br 24 (λ_=>.st none <| Fn Fo [] none) λ_=>.bd λx3 q3=>Ix IB 28 q3 <| .bd λx4 q4=>Ix IB 31 q4 <| .bd λx5 q5=>Ix IB 34 q5 <| .bd λx6 q6=>Ix R_S 37 q6 <| .bd λx7 q7=>Ix R_S 40 q7 <| .bd λx8 q8=>Ix R_S 43 q8 <| .st none <| .bd λx9 q9=>iN (CP (d+3) q9) <| .br 49 (λ_=>.st none <| Fn Fo [] none) λ_=>.st none <| Fn Fo [] none)
def FR (bg:List UInt8):Option (Int×List UInt8×Int) :=
 (CV bg).bind λ(x1:Int×Int×Int)=>cond (x1.2.2 != 0) (some (0,[],x1.2.2)) ((MF bg x1.2.1 bg.length).bind λ(x2:List UInt8)=>(Eb x2).bind λ(x3:List UInt8)=>some (x1.1,x3,0))
def RD (bg:List UInt8) (r:Int×List UInt8×Int):AV×WH:=((.tuple [(.int .i64 r.1),(kS r.2.1),(.int .i64 r.2.2)]),[])
theorem ahF (d:Nat) {bg:List UInt8} {r:Int×List UInt8×Int} (h:FR bg=some r):Spec (aF aH (d+4)) 124 [(kS bg)] [] (RD bg r).1 (RD bg r).2:=by
 unfold FR at h
 exact aZ nB axn h (.bd λx1 q1=>iN (Po (d+0) q1) <| .br 13 (λ_=>Fn Fo [] none) λ_=>.bd λx2 q2=>Sl LA 18 q2 <| .bd λx3 q3=>Cl [] Fo [] (SH (d+1) q3) <| Fn Fo [] none)
def jT (bg:List UInt8):Option (aB×List UInt8×Int) :=
 (FR bg).bind λ(x1:Int×List UInt8×Int)=>cond (x1.2.2 != 0) (some ((⟨0,([]:List UInt8)⟩:aB),[],x1.2.2)) ((uH x1.2.1).bind λ(x2:List UInt8×List UInt8×Int)=>cond (x2.2.2 != 0) (some ((⟨0,([]:List UInt8)⟩:aB),[],x2.2.2)) ((ku (⟨x1.1,x2.1⟩:aB)).bind λ(x3:Bool)=>cond (!x3) (some ((⟨0,([]:List UInt8)⟩:aB),[],2)) (some ((⟨x1.1,x2.1⟩:aB),x2.2.1,0))))
def Ec (bg:List UInt8) (r:aB×List UInt8×Int):AV×WH:=((.tuple [(.agg (dZ r.1)),(kS r.2.1),(.int .i64 r.2.2)]),[])
theorem GX (d:Nat) {bg:List UInt8} {r:aB×List UInt8×Int} (h:jT bg=some r):Spec (aF aH (d+5)) 101 [(kS bg)] [] (Ec bg r).1 (Ec bg r).2:=by
 unfold jT at h
 exact aZ nB aw4 h (.bd λx1 q1=>Cl [] Fo [] (ahF (d+0) q1) <| .br 14 (λ_=>.st none <| Fn Fo [] none) λ_=>.bd λx2 q2=>Cl [] Fo [] (M9 (d+0) q2) <| .br 24 (λ_=>.st none <| Fn Fo [] none) λ_=>.st none <| .bd λx3 q3=>iN (yj (d+3) q3) <| .br 32 (λ_=>.st none <| Fn Fo [] none) λ_=>.st none <| Fn Fo [] none)
def iZ (p_r:aJ):Option (aA×aJ) :=
 (dY 4 p_r).bind λ(x1:List Int×aJ)=>(fq 1 x1.2).bind λ(x2:Int×aJ)=>(bV x1.1 0).bind λ(x3:Int)=>(bV x1.1 1).bind λ(x4:Int)=>(bV x1.1 2).bind λ(x5:Int)=>(bV x1.1 3).bind λ(x6:Int)=>some ((⟨x3,x4,x5,x6,(x2.1==1)⟩:aA),x2.2)
def Ed (p_r:aJ) (r:aA×aJ):AV×WH:=((.agg (zV r.1)),[(some (.cells (fH r.2) false false))])
theorem SI (d:Nat) {p_r:aJ} {r:aA×aJ} (h:iZ p_r=some r):Spec (aF aH (d+7)) 103 [(.ptr (some (0,0)))] [(some (.cells (fH p_r) false false))] (Ed p_r r).1 (Ed p_r r).2:=by
 unfold iZ at h
 exact aZ nB aw5 h (.bd λx1 q1=>Cl [] Fo [] (qQ (d+1) q1) <| .bd λx2 q2=>Cl [] Fo [] (vB (d+0) q2) <| .bd λx3 q3=>Ix IB 7 q3 <| .bd λx4 q4=>Ix IB 10 q4 <| .bd λx5 q5=>Ix IB 13 q5 <| .bd λx6 q6=>Ix IB 16 q6 <| .st none <| Fn Fo [] none)
def gL (count:Int) (p_r:aG):Option (List Int×aG) :=
 gd (agk 8 count) (cond (p_r.e==0) ((zN p_r.b count).bind λ(x2:List Int×List UInt8×Int)=>cond (x2.2.2==0) (some (x2.1,(⟨x2.2.1,x2.2.2⟩:aG))) (some ((List.replicate count.toNat (0:Int)),(⟨x2.2.1,x2.2.2⟩:aG)))) (some ((List.replicate count.toNat (0:Int)),p_r)))
def eF (count:Int) (p_r:aG) (r:List Int×aG):AV×WH:=((J9 r.1),[(some (.cells (eU r.2) false false))])
theorem tO (d:Nat) {count:Int} {p_r:aG} {r:List Int×aG} (h:gL count p_r=some r):Spec (aF aH (d+5)) 126 [(.ptr (some (0,0))),(.int .i64 count)] [(some (.cells (eU p_r) false false))] (eF count p_r r).1 (eF count p_r r).2:=by
 unfold gL at h
 exact aZ nB axp h (.gd λq1=>.ap 8 count.toNat (sF (List.replicate count.toNat (0:Int))) <| .ob (anj (n:=count) q1:wMk (.int .i64 count) (.int .i64 count) count.toNat 8) <| .ob (agj (x:=(0:Int)) IB rfl _:kN count.toNat [(.int .i64 0)]=sF (List.replicate count.toNat (0:Int))) <| .br 13 (λ_=>.bd λx2 q2=>Cl [] Fo [] (L6 (d+0) q2) <| .st none <| .st none <| .br 34 (λ_=>Fn Fo [] none) λ_=>.xQ (.fin (some false) [] none) _ (λr=>@Eq AV (.list 1 count.toNat (sF (List.replicate count.toNat (0:Int))) false) (eF count p_r r).1∧@Eq WH [(some (.cells (eU (⟨x2.2.1,x2.2.2⟩:aG)) false false))] (eF count p_r r).2) (by show _∧_;refine ⟨?_, ?_⟩<;>first | rfl | (simp only [eF,List.length_set,List.length_append,List.length_replicate,List.length_cons,List.length_nil,List.length_take,List.length_drop,Nat.add_zero,Nat.zero_add];done) | simp [eF,J9])) λ_=>.xQ (.fin (some false) [] none) _ (λr=>@Eq AV (.list 1 count.toNat (sF (List.replicate count.toNat (0:Int))) false) (eF count p_r r).1∧@Eq WH [(some (.cells (eU p_r) false false))] (eF count p_r r).2) (by show _∧_;refine ⟨?_, ?_⟩<;>first | rfl | (simp only [eF,List.length_set,List.length_append,List.length_replicate,List.length_cons,List.length_nil,List.length_take,List.length_drop,Nat.add_zero,Nat.zero_add];done) | simp [eF,J9]))
def gq (most:Int) (p_r:aG):Option (Int×aG) :=
 (gL 1 p_r).bind λ(x1:List Int×aG)=>(bV x1.1 0).bind λ(x2:Int)=>cond (decide (x2 > most)) (some (0,(⟨x1.2.b,2⟩:aG))) (some (x2,x1.2))
def BN (most:Int) (p_r:aG) (r:Int×aG):AV×WH:=((.int .i64 r.1),[(some (.cells (eU r.2) false false))])
theorem Ee (d:Nat) {most:Int} {p_r:aG} {r:Int×aG} (h:gq most p_r=some r):Spec (aF aH (d+6)) 127 [(.ptr (some (0,0))),(.int .i64 most)] [(some (.cells (eU p_r) false false))] (BN most p_r r).1 (BN most p_r r).2:=by
 unfold gq at h
 exact aZ nB axq h (.bd λx1 q1=>Cl [] Fo [] (tO (d+0) q1) <| .bd λx2 q2=>Ix IB 8 q2 <| .br 12 (λ_=>.st none <| Fn Fo [] none) λ_=>Fn Fo [] none)
def kE (p_r:aG):Option (av×aG) :=
 cond (p_r.e==0) ((Ac p_r.b 2).bind λ(x1:List (List UInt8)×List UInt8×Int)=>cond (x1.2.2==0) ((bV x1.1 0).bind λ(x2:List UInt8)=>(bV x1.1 1).bind λ(x3:List UInt8)=>some ((⟨x2,x3⟩:av),(⟨x1.2.1,x1.2.2⟩:aG))) (some ((⟨([]:List UInt8),([]:List UInt8)⟩:av),(⟨x1.2.1,x1.2.2⟩:aG)))) (some ((⟨([]:List UInt8),([]:List UInt8)⟩:av),p_r))
def Cq (p_r:aG) (r:av×aG):AV×WH:=((.agg (sV r.1)),[(some (.cells (eU r.2) false false))])
theorem QO (d:Nat) {p_r:aG} {r:av×aG} (h:kE p_r=some r):Spec (aF aH (d+6)) 128 [(.ptr (some (0,0)))] [(some (.cells (eU p_r) false false))] (Cq p_r r).1 (Cq p_r r).2:=by
 unfold kE at h
 exact aZ nB axr h (.br 8 (λ_=>.bd λx1 q1=>Cl [] Fo [] (RB (d+0) q1) <| .st none <| .st none <| .br 28 (λ_=>.bd λx2 q2=>Ix R_S 30 q2 <| .bd λx3 q3=>Ix R_S 33 q3 <| .st none <| .st none <| Fn Fo [] none) λ_=>.st none <| Fn Fo [] none) λ_=>.st none <| Fn Fo [] none)
def ji (p_r:aG):Option (au×aG) :=
 (gL 2 p_r).bind λ(x1:List Int×aG)=>(bV x1.1 0).bind λ(x2:Int)=>(bV x1.1 1).bind λ(x3:Int)=>cond (x1.2.e==0) ((jT x1.2.b).bind λ(x4:aB×List UInt8×Int)=>some ((⟨x2,x3,x4.1⟩:au),(⟨x4.2.1,x4.2.2⟩:aG))) (some ((⟨x2,x3,(⟨0,([]:List UInt8)⟩:aB)⟩:au),x1.2))
def Cr (p_r:aG) (r:au×aG):AV×WH:=((.agg (bS r.1)),[(some (.cells (eU r.2) false false))])
theorem QS (d:Nat) {p_r:aG} {r:au×aG} (h:ji p_r=some r):Spec (aF aH (d+6)) 129 [(.ptr (some (0,0)))] [(some (.cells (eU p_r) false false))] (Cr p_r r).1 (Cr p_r r).2:=by
 unfold ji at h
 exact aZ nB axt h (.bd λx1 q1=>Cl [] Fo [] (tO (d+0) q1) <| .bd λx2 q2=>Ix IB 7 q2 <| .st none <| .bd λx3 q3=>Ix IB 10 q3 <| .st none <| .br 18 (λ_=>.bd λx4 q4=>Cl [] Fo [] (GX (d+0) q4) <| .st none <| .st none <| .st none <| .st none <| Fn Fo [] none) λ_=>.st none <| Fn Fo [] none)
def pI (x4:Int×aG) (x2:Int) (x3:Int) (s9:Int×aG×List av):List AV×WH:=([(.ptr (some (0,0))),(.ptr (some (1,0))),(.int .i64 x4.1),(.int .i64 s9.1)],[(some (.cells [(.int .i64 x2),(.int .i64 x3),(.acc 2 0 2 s9.2.2.length true),(.acc 3 0 4 0 true)] false false)),(some (.cells (eU s9.2.1) false false)),(some (.cells (aD s9.2.2) false true)),(some (.cells (aI []) false true))])
def tQ (x4:Int×aG) (x2:Int) (x3:Int):(aG×List av)→Ex×Fast×WH:=λe=>((.exit 0),[(2,(.ptr (some (0,0)))),(5,(.ptr (some (1,0))))],[(some (.cells [(.int .i64 x2),(.int .i64 x3),(.acc 2 0 2 e.2.length true),(.acc 3 0 4 0 true)] false false)),(some (.cells (eU e.1) false false)),(some (.cells (aD e.2) false true)),(some (.cells (aI []) false true))])
abbrev Ns (x4:Int×aG) (x2:Int) (x3:Int):=dF [2,5,21,22] (pI x4 x2 x3) (tQ x4 x2 x3)
def ig (x4:Int×aG) (x2:Int) (x3:Int) (s9:Int×aG×List av):Option ((Int×aG×List av)⊕((aG×List av))) :=
 cond (decide (s9.1 < x4.1)) ((kE s9.2.1).bind λ(x10:av×aG)=>gd (dx 32 (s9.2.2++[x10.1]).length) (some (.inl ((IntKind.i64.wrap (s9.1+1)),x10.2,(s9.2.2++[x10.1]))))) (some (.inr (s9.2.1,s9.2.2)))
def oG (x4:Int×aG) (x2:Int) (x3:Int) (s9:Int×aG×List av):Option ((aG×List av)):=bQ (ig x4 x2 x3) KK s9
theorem Pq (d:Nat) {x4:Int×aG} {x2:Int} {x3:Int} {s9:Int×aG×List av} {r:(Int×aG×List av)⊕((aG×List av))} (h:ig x4 x2 x3 s9=some r):bN (aV (aF aH (d+6)) KK 80 aeL) 0 (jJ [2,5,21,22] (pI x4 x2 x3 s9)) (Ns x4 x2 x3 r):=by
 unfold ig at h
 exact bC nB ajn h (.br 23 (λ_=>.bd λx10 J_=>Cl [] Fo [] (QO (d+0) J_) <| .gd λHz=>Ap aO 29 Hz <| .st none <| E0 [2,5,21,22]) λ_=>E0 [2,5])
theorem Pt (d:Nat) {x4:Int×aG} {x2:Int} {x3:Int} {s9:Int×aG×List av} {r:(aG×List av)} (h:oG x4 x2 x3 s9=some r):bN (eY (aV (aF aH (d+6)) KK 80 aeL) [2,5,21,22] KK) 0 (jJ [2,5,21,22] (pI x4 x2 x3 s9)) (tQ x4 x2 x3 r) :=
 cO (st:=pI x4 x2 x3) (fin:=tQ x4 x2 x3) (step:=ig x4 x2 x3) (λe=>by (intro h;cases h)) (λs x h=>Pq d h) KK s9 r h
def pJ (qE:Int×aG) (x2:Int) (x3:Int) (dD:(aG×List av)) (s16:Int×aG×List au):List AV×WH:=([(.ptr (some (0,0))),(.ptr (some (1,0))),(.int .i64 qE.1),(.int .i64 s16.1)],[(some (.cells [(.int .i64 x2),(.int .i64 x3),(.acc 2 0 2 dD.2.length true),(.acc 3 0 4 s16.2.2.length true)] false false)),(some (.cells (eU s16.2.1) false false)),(some (.cells (aD dD.2) false true)),(some (.cells (aI s16.2.2) false true))])
def tT (qE:Int×aG) (x2:Int) (x3:Int) (dD:(aG×List av)):(aG×List au)→Ex×Fast×WH:=λe=>((.exit 2),[(2,(.ptr (some (0,0)))),(5,(.ptr (some (1,0))))],[(some (.cells [(.int .i64 x2),(.int .i64 x3),(.acc 2 0 2 dD.2.length true),(.acc 3 0 4 e.2.length true)] false false)),(some (.cells (eU e.1) false false)),(some (.cells (aD dD.2) false true)),(some (.cells (aI e.2) false true))])
abbrev Nt (qE:Int×aG) (x2:Int) (x3:Int) (dD:(aG×List av)):=dF [2,5,33,34] (pJ qE x2 x3 dD) (tT qE x2 x3 dD)
def iq (qE:Int×aG) (x2:Int) (x3:Int) (dD:(aG×List av)) (s16:Int×aG×List au):Option ((Int×aG×List au)⊕((aG×List au))) :=
 cond (decide (s16.1 < qE.1)) ((ji s16.2.1).bind λ(jP:au×aG)=>gd (dx 40 (s16.2.2++[jP.1]).length) (some (.inl ((IntKind.i64.wrap (s16.1+1)),jP.2,(s16.2.2++[jP.1]))))) (some (.inr (s16.2.1,s16.2.2)))
def lF (qE:Int×aG) (x2:Int) (x3:Int) (dD:(aG×List av)) (s16:Int×aG×List au):Option ((aG×List au)):=bQ (iq qE x2 x3 dD) KK s16
theorem Pv (d:Nat) {qE:Int×aG} {x2:Int} {x3:Int} {dD:(aG×List av)} {s16:Int×aG×List au} {r:(Int×aG×List au)⊕((aG×List au))} (h:iq qE x2 x3 dD s16=some r):bN (aV (aF aH (d+6)) KK 80 aeM) 0 (jJ [2,5,33,34] (pJ qE x2 x3 dD s16)) (Nt qE x2 x3 dD r):=by
 unfold iq at h
 exact bC nB ajo h (.br 35 (λ_=>.bd λjP Jm=>Cl [] Fo [] (QS (d+0) Jm) <| .gd λV_=>Ap bW 41 V_ <| .st none <| E0 [2,5,33,34]) λ_=>E0 [2,5])
theorem Pw (d:Nat) {qE:Int×aG} {x2:Int} {x3:Int} {dD:(aG×List av)} {s16:Int×aG×List au} {r:(aG×List au)} (h:lF qE x2 x3 dD s16=some r):bN (eY (aV (aF aH (d+6)) KK 80 aeM) [2,5,33,34] KK) 0 (jJ [2,5,33,34] (pJ qE x2 x3 dD s16)) (tT qE x2 x3 dD r) :=
 cO (st:=pJ qE x2 x3 dD) (fin:=tT qE x2 x3 dD) (step:=iq qE x2 x3 dD) (λe=>by (intro h;cases h)) (λs x h=>Pv d h) KK s16 r h
abbrev Nu (mh:(aG×List au)) (x2:Int) (x3:Int) (dD:(aG×List av)):Fast×WH:=([(2,(.ptr (some (0,0)))),(5,(.ptr (some (1,0))))],[(some (.cells [(.int .i64 x2),(.int .i64 x3),(.acc 2 0 2 dD.2.length true),(.acc 3 0 4 mh.2.length true)] false false)),(some (.cells (eU mh.1) false false)),(some (.cells (aD dD.2) false true)),(some (.cells (aI mh.2) false true))])
def L8 (mh:(aG×List au)) (x2:Int) (x3:Int) (dD:(aG×List av)):Bool→Ex×Fast×WH:=λe=>(.normal,[(2,(.ptr (some (0,0)))),(5,(.ptr (some (1,0)))),(53,(.bool e))],[(some (.cells [(.int .i64 x2),(.int .i64 x3),(.acc 2 0 2 dD.2.length true),(.acc 3 0 4 mh.2.length true)] false false)),(some (.cells (eU mh.1) false false)),(some (.cells (aD dD.2) false true)),(some (.cells (aI mh.2) false true))])
def oH (mh:(aG×List au)) (x2:Int) (x3:Int) (dD:(aG×List av)):Option (Bool) :=
 cond (mh.1.e==0) ((lC (⟨x2,x3,dD.2,mh.2⟩:aC)).bind λ(x20:Bool)=>some (!x20)) (some false)
theorem Px (d:Nat) {mh:(aG×List au)} {x2:Int} {x3:Int} {dD:(aG×List av)} {r:Bool} (h:oH mh x2 x3 dD=some r):bN (aV (aF aH (d+10)) KK 80 Oi) 0 (Nu mh x2 x3 dD) (L8 mh x2 x3 dD r):=by
 unfold oH at h
 exact bC nB Ub h (.br 49 (λ_=>.bd λx20 q20=>Cb [.agg [.undef,.undef,.slice none 2 0 0 true,.slice none 4 0 0 true]] (zK (d+0) q20) <| E0 [2,5,53]) λ_=>E0 [2,5,53])
abbrev Nv (mh:(aG×List au)) (x2:Int) (x3:Int) (dD:(aG×List av)):Fast×WH:=([(2,(.ptr (some (0,0)))),(5,(.ptr (some (1,0))))],[(some (.cells [(.int .i64 x2),(.int .i64 x3),(.acc 2 0 2 dD.2.length true),(.acc 3 0 4 mh.2.length true)] false false)),(some (.cells (eU mh.1) false false)),(some (.cells (aD dD.2) false true)),(some (.cells (aI mh.2) false true))])
def L9 (mh:(aG×List au)) (x2:Int) (x3:Int) (dD:(aG×List av)):aG→Ex×Fast×WH:=λe=>(.normal,[(2,(.ptr (some (0,0)))),(5,(.ptr (some (1,0))))],[(some (.cells [(.int .i64 x2),(.int .i64 x3),(.acc 2 0 2 dD.2.length true),(.acc 3 0 4 mh.2.length true)] false false)),(some (.cells (eU e) false false)),(some (.cells (aD dD.2) false true)),(some (.cells (aI mh.2) false true))])
def iT (mh:(aG×List au)) (x2:Int) (x3:Int) (dD:(aG×List av)):Option (aG) :=
 (oH mh x2 x3 dD).bind λ(x21:Bool)=>cond x21 (some (⟨mh.1.b,2⟩:aG)) (some mh.1)
theorem Py (d:Nat) {mh:(aG×List au)} {x2:Int} {x3:Int} {dD:(aG×List av)} {r:aG} (h:iT mh x2 x3 dD=some r):bN (aV (aF aH (d+10)) KK 80 Rb) 0 (Nv mh x2 x3 dD) (L9 mh x2 x3 dD r):=by
 unfold iT at h
 exact bC nB V7 h (.bd λx21 q21=>Jn [2,5] [none,none] [] [] (Px (d+0) q21) <| .br 53 (λ_=>.st none <| E0 [2,5]) λ_=>E0 [2,5])
def mP (bg:List UInt8):Option (aC×List UInt8×Int) :=
 (gL 2 (⟨bg,0⟩:aG)).bind λ(x1:List Int×aG)=>(bV x1.1 0).bind λ(x2:Int)=>(bV x1.1 1).bind λ(x3:Int)=>(gq 8 x1.2).bind λ(x4:Int×aG)=>(oG x4 x2 x3 (0,x4.2,[])).bind λ(dD:(aG×List av))=>(gq 4 dD.1).bind λ(qE:Int×aG)=>(lF qE x2 x3 dD (0,qE.2,[])).bind λ(mh:(aG×List au))=>(iT mh x2 x3 dD).bind λ(FP:aG)=>cond (FP.e != 0) (some ((⟨0,0,[],[]⟩:aC),[],FP.e)) (some ((⟨x2,x3,dD.2,mh.2⟩:aC),FP.b,0))
def EX (bg:List UInt8) (r:aC×List UInt8×Int):AV×WH:=((.tuple [(.agg (bK r.1)),(kS r.2.1),(.int .i64 r.2.2)]),[])
theorem U3 (d:Nat) {bg:List UInt8} {r:aC×List UInt8×Int} (h:mP bg=some r):Spec (aF aH (d+11)) 105 [(kS bg)] [] (EX bg r).1 (EX bg r).2:=by
 unfold mP at h
 exact aZ (MK _) aw6 h (.z 2 [.undef,.undef,.slice none 2 0 0 true,.slice none 4 0 0 true] <| .bd λx1 q1=>Cl [] Fo [] (tO (d+5) q1) <| .bd λx2 q2=>Ix IB 13 q2 <| .st none <| .bd λx3 q3=>Ix IB 16 q3 <| .st none <| .bd λx4 q4=>Cl [] Fo [] (Ee (d+4) q4) <| .bd λdD LK=>Lp [none,none,none,none] [Tw,Tw,Tw,Tw] [] (Pt (d+4) LK) <| .bd λqE Yf=>Cl [] Fo [] (Ee (d+4) Yf) <| .bd λmh Qw=>Lp [none,none,none,none] [] [] (Pw (d+4) Qw) <| .bd λFP q22=>Jn [2,5] [none,none] [] [] (Py (d+0) q22) <| .br 61 (λ_=>.z 62 [.agg [.undef,.undef,.slice none 2 0 0 true,.slice none 4 0 0 true]] <| .st none <| Fn Fo [.tuple [.agg [.undef,.undef,.slice none 2 0 0 true,.slice none 4 0 0 true],.undef,.undef]] none) λ_=>.st none <| .st none <| .st none <| .er <| .ob (rfl:@Eq (Option AV) (some (kS FP.b)) (some (kS FP.b))) <| Fn Fo [.tuple [.agg [.undef,.undef,.slice none 2 0 0 true,.slice none 4 0 0 true],.undef,.undef]] none)
abbrev JN (x10:Int×aJ) (x2:Int) (x3:Int) (x4:Int) (x5:Int) (x6:Int) (x7:Int) (x8:Int) (x9:Int):Fast×WH:=([(0,(.ptr (some (0,0)))),(2,(.ptr (some (1,0))))],[(some (.cells (fH x10.2) false false)),(some (.cells [(.int .i64 x2),(.int .i64 x3),(.int .i64 x4),(.int .i64 x5),(.int .i64 x6),(.int .i64 x7),(.int .i64 x8),(.int .i64 x9),(.bool (x10.1==1)),(.int .i64 0),(.int .i64 0),(.int .i64 0),(.str ([]:List UInt8)),(.str ([]:List UInt8)),(.str ([]:List UInt8)),(.int .i64 0),(.str ([]:List UInt8)),(.slice none 1 0 0 true),(.slice none 5 0 0 true),(.int .i64 0),(.int .i64 0),(.slice none 2 0 0 true),(.slice none 4 0 0 true)] false false))])
def Ig (x10:Int×aJ) (x2:Int) (x3:Int) (x4:Int) (x5:Int) (x6:Int) (x7:Int) (x8:Int) (x9:Int):(aJ×Int×Int×Int×List UInt8×List UInt8×List UInt8)→Ex×Fast×WH:=λe=>(.normal,[(0,(.ptr (some (0,0)))),(2,(.ptr (some (1,0))))],[(some (.cells (fH e.1) false false)),(some (.cells [(.int .i64 x2),(.int .i64 x3),(.int .i64 x4),(.int .i64 x5),(.int .i64 x6),(.int .i64 x7),(.int .i64 x8),(.int .i64 x9),(.bool (x10.1==1)),(.int .i64 e.2.1),(.int .i64 e.2.2.1),(.int .i64 e.2.2.2.1),(.str e.2.2.2.2.1),(.str e.2.2.2.2.2.1),(.str e.2.2.2.2.2.2),(.int .i64 0),(.str ([]:List UInt8)),(.slice none 1 0 0 true),(.slice none 5 0 0 true),(.int .i64 0),(.int .i64 0),(.slice none 2 0 0 true),(.slice none 4 0 0 true)] false false))])
def jr (x10:Int×aJ) (x2:Int) (x3:Int) (x4:Int) (x5:Int) (x6:Int) (x7:Int) (x8:Int) (x9:Int):Option ((aJ×Int×Int×Int×List UInt8×List UInt8×List UInt8)) :=
 cond (x10.2.e==0) ((qY x10.2.b).bind λ(bY:aU×List UInt8×Int)=>some ((⟨bY.2.1,bY.2.2⟩:aJ),bY.1.Client,bY.1.Seq,bY.1.Op.Kind,bY.1.Op.Key,bY.1.Op.Value,bY.1.Op.Old)) (some (x10.2,0,0,0,([]:List UInt8),([]:List UInt8),([]:List UInt8)))
theorem KV (d:Nat) {x10:Int×aJ} {x2:Int} {x3:Int} {x4:Int} {x5:Int} {x6:Int} {x7:Int} {x8:Int} {x9:Int} {r:(aJ×Int×Int×Int×List UInt8×List UInt8×List UInt8)} (h:jr x10 x2 x3 x4 x5 x6 x7 x8 x9=some r):bN (aV (aF aH (d+6)) KK 128 aag) 1 (JN x10 x2 x3 x4 x5 x6 x7 x8 x9) (Ig x10 x2 x3 x4 x5 x6 x7 x8 x9 r):=by
 unfold jr at h
 exact bC nB abU h (.br 46 (λ_=>.bd λbY Hz=>Cl [] Fo [] (YL (d+0) Hz) <| .st none <| .st none <| .st none <| E0 [0,2]) λ_=>E0 [0,2])
abbrev JO (dD:(aJ×Int×Int×Int×List UInt8×List UInt8×List UInt8)) (x2:Int) (x3:Int) (x4:Int) (x5:Int) (x6:Int) (x7:Int) (x8:Int) (x9:Int) (x10:Int×aJ):Fast×WH:=([(0,(.ptr (some (0,0)))),(2,(.ptr (some (1,0))))],[(some (.cells (fH dD.1) false false)),(some (.cells [(.int .i64 x2),(.int .i64 x3),(.int .i64 x4),(.int .i64 x5),(.int .i64 x6),(.int .i64 x7),(.int .i64 x8),(.int .i64 x9),(.bool (x10.1==1)),(.int .i64 dD.2.1),(.int .i64 dD.2.2.1),(.int .i64 dD.2.2.2.1),(.str dD.2.2.2.2.1),(.str dD.2.2.2.2.2.1),(.str dD.2.2.2.2.2.2),(.int .i64 0),(.str ([]:List UInt8)),(.slice none 1 0 0 true),(.slice none 5 0 0 true),(.int .i64 0),(.int .i64 0),(.slice none 2 0 0 true),(.slice none 4 0 0 true)] false false))])
def Ih (dD:(aJ×Int×Int×Int×List UInt8×List UInt8×List UInt8)) (x2:Int) (x3:Int) (x4:Int) (x5:Int) (x6:Int) (x7:Int) (x8:Int) (x9:Int) (x10:Int×aJ):(aJ×Int×List UInt8)→Ex×Fast×WH:=λe=>(.normal,[(0,(.ptr (some (0,0)))),(2,(.ptr (some (1,0))))],[(some (.cells (fH e.1) false false)),(some (.cells [(.int .i64 x2),(.int .i64 x3),(.int .i64 x4),(.int .i64 x5),(.int .i64 x6),(.int .i64 x7),(.int .i64 x8),(.int .i64 x9),(.bool (x10.1==1)),(.int .i64 dD.2.1),(.int .i64 dD.2.2.1),(.int .i64 dD.2.2.2.1),(.str dD.2.2.2.2.1),(.str dD.2.2.2.2.2.1),(.str dD.2.2.2.2.2.2),(.int .i64 e.2.1),(.str e.2.2),(.slice none 1 0 0 true),(.slice none 5 0 0 true),(.int .i64 0),(.int .i64 0),(.slice none 2 0 0 true),(.slice none 4 0 0 true)] false false))])
def jv (dD:(aJ×Int×Int×Int×List UInt8×List UInt8×List UInt8)) (x2:Int) (x3:Int) (x4:Int) (x5:Int) (x6:Int) (x7:Int) (x8:Int) (x9:Int) (x10:Int×aJ):Option ((aJ×Int×List UInt8)) :=
 cond (dD.1.e==0) ((jT dD.1.b).bind λ(qE:aB×List UInt8×Int)=>some ((⟨qE.2.1,qE.2.2⟩:aJ),qE.1.Why,qE.1.Value)) (some (dD.1,0,([]:List UInt8)))
theorem KW (d:Nat) {dD:(aJ×Int×Int×Int×List UInt8×List UInt8×List UInt8)} {x2:Int} {x3:Int} {x4:Int} {x5:Int} {x6:Int} {x7:Int} {x8:Int} {x9:Int} {x10:Int×aJ} {r:(aJ×Int×List UInt8)} (h:jv dD x2 x3 x4 x5 x6 x7 x8 x9 x10=some r):bN (aV (aF aH (d+5)) KK 128 XB) 1 (JO dD x2 x3 x4 x5 x6 x7 x8 x9 x10) (Ih dD x2 x3 x4 x5 x6 x7 x8 x9 x10 r):=by
 unfold jv at h
 exact bC nB aah h (.br 67 (λ_=>.bd λqE Yf=>Cl [] Fo [] (GX (d+0) Yf) <| .st none <| .st none <| .st none <| E0 [0,2]) λ_=>E0 [0,2])
def lW (jP:Int×aJ) (x2:Int) (x3:Int) (x4:Int) (x5:Int) (x6:Int) (x7:Int) (x8:Int) (x9:Int) (x10:Int×aJ) (dD:(aJ×Int×Int×Int×List UInt8×List UInt8×List UInt8)) (m_:(aJ×Int×List UInt8)) (mE:List Int×aJ) (U4:Int×aJ×List aA):List AV×WH:=([(.ptr (some (0,0))),(.ptr (some (1,0))),(.int .i64 jP.1),(.int .i64 U4.1)],[(some (.cells (fH U4.2.1) false false)),(some (.cells [(.int .i64 x2),(.int .i64 x3),(.int .i64 x4),(.int .i64 x5),(.int .i64 x6),(.int .i64 x7),(.int .i64 x8),(.int .i64 x9),(.bool (x10.1==1)),(.int .i64 dD.2.1),(.int .i64 dD.2.2.1),(.int .i64 dD.2.2.2.1),(.str dD.2.2.2.2.1),(.str dD.2.2.2.2.2.1),(.str dD.2.2.2.2.2.2),(.int .i64 m_.2.1),(.str m_.2.2),(.list 1 mE.1.length (sF mE.1) true),(.acc 2 0 5 U4.2.2.length true),(.int .i64 0),(.int .i64 0),(.acc 3 0 2 0 true),(.acc 4 0 4 0 true)] false false)),(some (.cells (aX U4.2.2) false true)),(some (.cells (aD []) false true)),(some (.cells (aI []) false true))])
def qg (jP:Int×aJ) (x2:Int) (x3:Int) (x4:Int) (x5:Int) (x6:Int) (x7:Int) (x8:Int) (x9:Int) (x10:Int×aJ) (dD:(aJ×Int×Int×Int×List UInt8×List UInt8×List UInt8)) (m_:(aJ×Int×List UInt8)) (mE:List Int×aJ):(aJ×List aA)→Ex×Fast×WH:=λe=>((.exit 0),[(0,(.ptr (some (0,0)))),(2,(.ptr (some (1,0))))],[(some (.cells (fH e.1) false false)),(some (.cells [(.int .i64 x2),(.int .i64 x3),(.int .i64 x4),(.int .i64 x5),(.int .i64 x6),(.int .i64 x7),(.int .i64 x8),(.int .i64 x9),(.bool (x10.1==1)),(.int .i64 dD.2.1),(.int .i64 dD.2.2.1),(.int .i64 dD.2.2.2.1),(.str dD.2.2.2.2.1),(.str dD.2.2.2.2.2.1),(.str dD.2.2.2.2.2.2),(.int .i64 m_.2.1),(.str m_.2.2),(.list 1 mE.1.length (sF mE.1) true),(.acc 2 0 5 e.2.length true),(.int .i64 0),(.int .i64 0),(.acc 3 0 2 0 true),(.acc 4 0 4 0 true)] false false)),(some (.cells (aX e.2) false true)),(some (.cells (aD []) false true)),(some (.cells (aI []) false true))])
abbrev JQ (jP:Int×aJ) (x2:Int) (x3:Int) (x4:Int) (x5:Int) (x6:Int) (x7:Int) (x8:Int) (x9:Int) (x10:Int×aJ) (dD:(aJ×Int×Int×Int×List UInt8×List UInt8×List UInt8)) (m_:(aJ×Int×List UInt8)) (mE:List Int×aJ):=dF [0,2,91,92] (lW jP x2 x3 x4 x5 x6 x7 x8 x9 x10 dD m_ mE) (qg jP x2 x3 x4 x5 x6 x7 x8 x9 x10 dD m_ mE)
def mK (jP:Int×aJ) (x2:Int) (x3:Int) (x4:Int) (x5:Int) (x6:Int) (x7:Int) (x8:Int) (x9:Int) (x10:Int×aJ) (dD:(aJ×Int×Int×Int×List UInt8×List UInt8×List UInt8)) (m_:(aJ×Int×List UInt8)) (mE:List Int×aJ) (U4:Int×aJ×List aA):Option ((Int×aJ×List aA)⊕((aJ×List aA))) :=
 cond (decide (U4.1 < jP.1)) ((iZ U4.2.1).bind λ(x23:aA×aJ)=>gd (dx 40 (U4.2.2++[x23.1]).length) (some (.inl ((IntKind.i64.wrap (U4.1+1)),x23.2,(U4.2.2++[x23.1]))))) (some (.inr (U4.2.1,U4.2.2)))
def pK (jP:Int×aJ) (x2:Int) (x3:Int) (x4:Int) (x5:Int) (x6:Int) (x7:Int) (x8:Int) (x9:Int) (x10:Int×aJ) (dD:(aJ×Int×Int×Int×List UInt8×List UInt8×List UInt8)) (m_:(aJ×Int×List UInt8)) (mE:List Int×aJ) (U4:Int×aJ×List aA):Option ((aJ×List aA)):=bQ (mK jP x2 x3 x4 x5 x6 x7 x8 x9 x10 dD m_ mE) KK U4
theorem KX (d:Nat) {jP:Int×aJ} {x2:Int} {x3:Int} {x4:Int} {x5:Int} {x6:Int} {x7:Int} {x8:Int} {x9:Int} {x10:Int×aJ} {dD:(aJ×Int×Int×Int×List UInt8×List UInt8×List UInt8)} {m_:(aJ×Int×List UInt8)} {mE:List Int×aJ} {U4:Int×aJ×List aA} {r:(Int×aJ×List aA)⊕((aJ×List aA))} (h:mK jP x2 x3 x4 x5 x6 x7 x8 x9 x10 dD m_ mE U4=some r):bN (aV (aF aH (d+7)) KK 128 ai7) 1 (jJ [0,2,91,92] (lW jP x2 x3 x4 x5 x6 x7 x8 x9 x10 dD m_ mE U4)) (JQ jP x2 x3 x4 x5 x6 x7 x8 x9 x10 dD m_ mE r):=by
 unfold mK at h
 exact bC nB alM h (.br 93 (λ_=>.bd λx23 q23=>Cl [] Fo [] (SI (d+0) q23) <| .gd λq24=>Ap kK 99 q24 <| .st none <| E0 [0,2,91,92]) λ_=>E0 [0,2])
theorem KY (d:Nat) {jP:Int×aJ} {x2:Int} {x3:Int} {x4:Int} {x5:Int} {x6:Int} {x7:Int} {x8:Int} {x9:Int} {x10:Int×aJ} {dD:(aJ×Int×Int×Int×List UInt8×List UInt8×List UInt8)} {m_:(aJ×Int×List UInt8)} {mE:List Int×aJ} {U4:Int×aJ×List aA} {r:(aJ×List aA)} (h:pK jP x2 x3 x4 x5 x6 x7 x8 x9 x10 dD m_ mE U4=some r):bN (eY (aV (aF aH (d+7)) KK 128 ai7) [0,2,91,92] KK) 1 (jJ [0,2,91,92] (lW jP x2 x3 x4 x5 x6 x7 x8 x9 x10 dD m_ mE U4)) (qg jP x2 x3 x4 x5 x6 x7 x8 x9 x10 dD m_ mE r) :=
 cO (st:=lW jP x2 x3 x4 x5 x6 x7 x8 x9 x10 dD m_ mE) (fin:=qg jP x2 x3 x4 x5 x6 x7 x8 x9 x10 dD m_ mE) (step:=mK jP x2 x3 x4 x5 x6 x7 x8 x9 x10 dD m_ mE) (λe=>by (intro h;cases h)) (λs x h=>KX d h) KK U4 r h
def oI (p_r:aJ):Option (aM×aJ) :=
 (dY 8 p_r).bind λ(x1:List Int×aJ)=>(bV x1.1 0).bind λ(x2:Int)=>(bV x1.1 1).bind λ(x3:Int)=>(bV x1.1 2).bind λ(x4:Int)=>(bV x1.1 3).bind λ(x5:Int)=>(bV x1.1 4).bind λ(x6:Int)=>(bV x1.1 5).bind λ(x7:Int)=>(bV x1.1 6).bind λ(x8:Int)=>(bV x1.1 7).bind λ(x9:Int)=>(fq 1 x1.2).bind λ(x10:Int×aJ)=>(jr x10 x2 x3 x4 x5 x6 x7 x8 x9).bind λ(dD:(aJ×Int×Int×Int×List UInt8×List UInt8×List UInt8))=>(jv dD x2 x3 x4 x5 x6 x7 x8 x9 x10).bind λ(m_:(aJ×Int×List UInt8))=>(fq 5 m_.1).bind λ(bX:Int×aJ)=>(dY bX.1 bX.2).bind λ(mE:List Int×aJ)=>(fq 5 mE.2).bind λ(jP:Int×aJ)=>(pK jP x2 x3 x4 x5 x6 x7 x8 x9 x10 dD m_ mE (0,jP.2,[])).bind λ(x25:(aJ×List aA))=>cond (x25.1.e==0) ((mP x25.1.b).bind λ(jd:aC×List UInt8×Int)=>some ((⟨x2,x3,x4,x5,x6,x7,x8,x9,(x10.1==1),(⟨dD.2.1,dD.2.2.1,(⟨dD.2.2.2.1,dD.2.2.2.2.1,dD.2.2.2.2.2.1,dD.2.2.2.2.2.2⟩:bE)⟩:aU),(⟨m_.2.1,m_.2.2⟩:aB),mE.1,x25.2,jd.1⟩:aM),(⟨jd.2.1,jd.2.2⟩:aJ))) (some ((⟨x2,x3,x4,x5,x6,x7,x8,x9,(x10.1==1),(⟨dD.2.1,dD.2.2.1,(⟨dD.2.2.2.1,dD.2.2.2.2.1,dD.2.2.2.2.2.1,dD.2.2.2.2.2.2⟩:bE)⟩:aU),(⟨m_.2.1,m_.2.2⟩:aB),mE.1,x25.2,(⟨0,0,[],[]⟩:aC)⟩:aM),x25.1))
def BO (p_r:aJ) (r:aM×aJ):AV×WH:=((.agg (dh r.1)),[(some (.cells (fH r.2) false false))])
theorem Pz (d:Nat) {p_r:aJ} {r:aM×aJ} (h:oI p_r=some r):Spec (aF aH (d+12)) 65 [(.ptr (some (0,0)))] [(some (.cells (fH p_r) false false))] (BO p_r r).1 (BO p_r r).2:=by
 unfold oI at h
 exact aZ (MK _) ay3 h (.z 2 [.undef,.undef,.undef,.undef,.undef,.undef,.undef,.undef,.undef,.undef,.undef,.undef,.undef,.undef,.undef,.undef,.undef,.slice none 1 0 0 true,.slice none 5 0 0 true,.undef,.undef,.slice none 2 0 0 true,.slice none 4 0 0 true] <| .bd λx1 q1=>Cl [] Fo [] (qQ (d+6) q1) <| .bd λx2 q2=>Ix IB 7 q2 <| .st none <| .bd λx3 q3=>Ix IB 10 q3 <| .st none <| .bd λx4 q4=>Ix IB 13 q4 <| .st none <| .bd λx5 q5=>Ix IB 16 q5 <| .st none <| .bd λx6 q6=>Ix IB 19 q6 <| .st none <| .bd λx7 q7=>Ix IB 22 q7 <| .st none <| .bd λx8 q8=>Ix IB 25 q8 <| .st none <| .bd λx9 q9=>Ix IB 28 q9 <| .st none <| .bd λx10 J_=>Cl [] Fo [] (vB (d+5) J_) <| .st none <| .bd λdD LK=>Jn [0,2] [none,none] [] [] (KV (d+5) LK) <| .bd λm_ ND=>Jn [0,2] [none,none] [] [] (KW (d+6) ND) <| .bd λbX ML=>Cl [] Fo [] (vB (d+5) ML) <| .bd λmE q16=>Cl [] Fo [] (qQ (d+6) q16) <| .st none <| .bd λjP Jm=>Cl [] Fo [] (vB (d+5) Jm) <| .bd λx25 q25=>Lp [none,none,none,none] [Tw,Tw,Tw,Tw,Tw] [] (KY (d+4) q25) <| .st none <| .br 110 (λ_=>.bd λjd q26=>Cl [] Fo [] (U3 (d+0) q26) <| .st none <| .st none <| .st none <| .st none <| Fn Fo [.agg [.undef,.undef,.undef,.undef,.undef,.undef,.undef,.undef,.undef,.undef,.undef,.undef,.undef,.undef,.undef,.undef,.undef,.slice none 1 0 0 true,.slice none 5 0 0 true,.undef,.undef,.slice none 2 0 0 true,.slice none 4 0 0 true]] none) λ_=>.st none <| Fn Fo [.agg [.undef,.undef,.undef,.undef,.undef,.undef,.undef,.undef,.undef,.undef,.undef,.undef,.undef,.undef,.undef,.undef,.undef,.slice none 1 0 0 true,.slice none 5 0 0 true,.undef,.undef,.slice none 2 0 0 true,.slice none 4 0 0 true]] none)
end Go.Proofs.YtohoggieaanllaaGreat
