import Derived.Test.YtohoggieaanllaaGreatXt
import Derived.Test.YtohoggieaanllaaGreatXs
set_option linter.all false
set_option maxRecDepth 100000
namespace Go.Proofs.YtohoggieaanllaaGreat
def bG (n:Int) (m:Int):Option (Int) :=
 (arp .i64 n m).bind λ(x1:Int)=>cond (decide (x1 < 0)) (some (IntKind.i64.wrap (x1+m))) (some x1)
def XF (n:Int) (m:Int) (r:Int):AV×WH:=((.int .i64 r),[])
theorem bJ (d:Nat) {n:Int} {m:Int} {r:Int} (h:bG n m=some r):Spec (aF aH (d+1)) 16 [(.int .i64 n),(.int .i64 m)] [] (XF n m r).1 (XF n m r).2:=by
 unfold bG at h
 exact aZ nB ayw h (.bd λx1 q1=>.v 7 (.int .i64 x1) <| .ob (avt q1:JX .rem .i64 n m=some (.int .i64 x1)) <| .br 9 (λ_=>Fn Fo [] none) λ_=>Fn Fo [] none)
def yH (n:Int):Option (List UInt8) :=
 (bG n 6).bind λ(x1:Int)=>(bV ([([]:List UInt8),[49],[50],[116,104,114,101,101],[115,105,120,116,101,101,110,32,98,121,116,101,115,32,105,116],[52]]:List (List UInt8)) x1).bind λ(x2:List UInt8)=>some x2
def Ui (n:Int) (r:List UInt8):AV×WH:=((.str r),[])
theorem LJ (d:Nat) {n:Int} {r:List UInt8} (h:yH n=some r):Spec (aF aH (d+2)) 32 [(.int .i64 n)] [] (Ui n r).1 (Ui n r).2:=by
 unfold yH at h
 exact aZ nB ayA h (.bd λx1 q1=>iN (bJ (d+0) q1) <| .bd λx2 q2=>.v 6 (.str x2) <| .ob (aky R_S q2:wP (.index false 6 1 (.c (.agg [(.str ([]:List UInt8)),(.str [49]),(.str [50]),(.str ([116,104,114,101,101])),(.str ([115,105,120,116,101,101,110,32,98,121,116,101,115,32,105,116])),(.str [52])])) (.c (.int .i64 x1)))=some (.str x2)) <| Fn Fo [] none)
abbrev ae0 (x1:Int) (n:Int):Fast×WH:=([(0,(.int .i64 n)),(4,(.int .i64 x1))],[])
def abX (x1:Int) (n:Int):Bool→Ex×Fast×WH:=λe=>(.normal,[(0,(.int .i64 n)),(4,(.int .i64 x1)),(5,(.bool e))],[])
def Kh (x1:Int) (n:Int):Option (Bool) :=
 cond (x1==0) (some true) (cond (x1==1) (some true) (some (x1==2)))
theorem ahp (d:Nat) {x1:Int} {n:Int} {r:Bool} (h:Kh x1 n=some r):bN (aV (aF aH (d+0)) KK 35 Z_) 0 (ae0 x1 n) (abX x1 n r):=by
 unfold Kh at h
 exact bC nB abT h (.br 5 (λ_=>E0 [0,4,5]) λ_=>.br 5 (λ_=>E0 [0,4,5]) λ_=>E0 [0,4,5])
def AL (n:Int):Option (Int) :=
 (bG n 7).bind λ(x1:Int)=>(Kh x1 n).bind λ(x2:Bool)=>cond x2 ((bG (IntKind.i64.wrap (Int.tdiv n 7)) 40).bind λ(x3:Int)=>some x3) (cond (x1==3) ((bG (IntKind.i64.wrap (Int.tdiv n 7)) 63).bind λ(x4:Int)=>(agf .i64 1 (IntKind.u64.wrap x4)).bind λ(x5:Int)=>(bG (IntKind.i64.wrap (Int.tdiv n 441)) 3).bind λ(x6:Int)=>some (IntKind.i64.wrap (x5 - x6))) (cond (x1==4) ((bG (IntKind.i64.wrap (Int.tdiv n 7)) 3).bind λ(x7:Int)=>some (IntKind.i64.wrap (4611686018427387903 - x7))) (cond (x1==5) ((bG (IntKind.i64.wrap (Int.tdiv n 7)) 1000).bind λ(x8:Int)=>some x8) (some n))))
def aaq (n:Int) (r:Int):AV×WH:=((.int .i64 r),[])
theorem yI (d:Nat) {n:Int} {r:Int} (h:AL n=some r):Spec (aF aH (d+2)) 37 [(.int .i64 n)] [] (aaq n r).1 (aaq n r).2:=by
 unfold AL at h
 exact aZ nB ayD h (.bd λx1 q1=>iN (bJ (d+0) q1) <| .bd λx2 q2=>Jn [0,4] [none,none] [] [] (ahp (d+1) q2) <| .br 5 (λ_=>.bd λx3 q3=>iN (bJ (d+0) q3) <| Fn Fo [] none) λ_=>.br 12 (λ_=>.bd λx4 q4=>iN (bJ (d+0) q4) <| .bd λx5 q5=>.v 18 (.int .i64 x5) <| .ob (ank q5:Vu .shl (.int .i64 1) (.int .u64 (IntKind.u64.wrap x4))=some (.int .i64 x5)) <| .bd λx6 q6=>iN (bJ (d+0) q6) <| Fn Fo [] none) λ_=>.br 23 (λ_=>.bd λx7 q7=>iN (bJ (d+0) q7) <| Fn Fo [] none) λ_=>.br 29 (λ_=>.bd λx8 q8=>iN (bJ (d+0) q8) <| Fn Fo [] none) λ_=>Fn Fo [] none)
def aar (n:Int):Option (Int) :=
 (AL n).bind λ(x1:Int)=>some (if (if (4611686018427387903:Int) < x1 then 4611686018427387903 else x1) > 0 then (if (4611686018427387903:Int) < x1 then 4611686018427387903 else x1) else 0)
def aas (n:Int) (r:Int):AV×WH:=((.int .i64 r),[])
theorem aqk (d:Nat) {n:Int} {r:Int} (h:aar n=some r):Spec (aF aH (d+3)) 109 [(.int .i64 n)] [] (aas n r).1 (aas n r).2:=by
 unfold aar at h
 exact aZ nB axa h (.bd λx1 q1=>iN (yI (d+0) q1) <| Fn Fo [] none)
def Ki (aQ:bO):Option (aA) :=
 (bG aQ.Inc 4).bind λ(x1:Int)=>(bG aQ.Status 3).bind λ(x2:Int)=>(bG aQ.qZ 5).bind λ(x3:Int)=>(bG aQ.Load 12).bind λ(x4:Int)=>(bG aQ.Inc 19).bind λ(x5:Int)=>cond (x5==18) ((aar aQ.qZ).bind λ(x6:Int)=>some (⟨x1,x2,x6,x4,aQ.dL⟩:aA)) (some (⟨x1,x2,x3,x4,aQ.dL⟩:aA))
def Uj (aQ:bO) (r:aA):AV×WH:=((.agg (zV r)),[])
theorem aat (d:Nat) {aQ:bO} {r:aA} (h:Ki aQ=some r):Spec (aF aH (d+4)) 76 [(.agg (yG aQ))] [] (Uj aQ r).1 (Uj aQ r).2:=by
 unfold Ki at h
 exact aZ nB aza h (.bd λx1 q1=>iN (bJ (d+2) q1) <| .bd λx2 q2=>iN (bJ (d+2) q2) <| .bd λx3 q3=>iN (bJ (d+2) q3) <| .bd λx4 q4=>iN (bJ (d+2) q4) <| .st none <| .bd λx5 q5=>iN (bJ (d+2) q5) <| .br 22 (λ_=>.bd λx6 q6=>iN (aqk (d+0) q6) <| .st none <| .st none <| Fn Fo [] none) λ_=>.st none <| Fn Fo [] none)
abbrev aau (s11:Int×List aA) (l:List bO) (n:Int):Fast×WH:=([(0,(bn l)),(1,(.int .i64 n)),(5,(.acc 0 0 5 s11.2.length true)),(6,(.int .i64 s11.1))],[(some (.cells (aX s11.2) false true))])
def Yd (s11:Int×List aA) (l:List bO) (n:Int):Unit⊕Unit→Ex×Fast×WH:=fun
 | .inl e=>(.normal,[(0,(bn l)),(1,(.int .i64 n)),(5,(.acc 0 0 5 s11.2.length true)),(6,(.int .i64 s11.1))],[(some (.cells (aX s11.2) false true))])
 | .inr e=>((.exit 0),[(5,(.acc 0 0 5 s11.2.length true))],[(some (.cells (aX s11.2) false true))])
def II (s11:Int×List aA) (l:List bO) (n:Int):Option (Unit⊕Unit) :=
 cond (decide (s11.1 < (l.length:Int))) (cond (decide (s11.1 < n)) (some (.inl ())) (some (.inr ()))) (some (.inr ()))
theorem Rf (d:Nat) {s11:Int×List aA} {l:List bO} {n:Int} {r:Unit⊕Unit} (h:II s11 l n=some r):bN (aV (aF aH (d+0)) KK 27 LG) 0 (aau s11 l n) (Yd s11 l n r):=by
 unfold II at h
 exact bC nB MI h (.br 11 (λ_=>.br 15 (λ_=>E1 [0,1,5,6] [none,none,none,none] [] [.slice none 5 0 0 true,.undef,.slice none 5 0 0 true,.undef]) λ_=>E1 [5] [none] [] [.slice none 5 0 0 true]) λ_=>E1 [5] [none] [] [.slice none 5 0 0 true])
def AO (l:List bO) (n:Int) (s11:Int×List aA):List AV×WH:=([(bn l),(.int .i64 n),(.acc 0 0 5 s11.2.length true),(.int .i64 s11.1)],[(some (.cells (aX s11.2) false true))])
def Et (l:List bO) (n:Int):(List aA)→Ex×Fast×WH:=λe=>((.exit 0),[(5,(.acc 0 0 5 e.length true))],[(some (.cells (aX e) false true))])
abbrev aav (l:List bO) (n:Int):=dF [0,1,5,6] (AO l n) (Et l n)
def yJ (l:List bO) (n:Int) (s11:Int×List aA):Option ((Int×List aA)⊕((List aA))) :=
 (II s11 l n).bind λ(dD:Unit⊕Unit)=>cond (jO dD) ((bV l s11.1).bind λ(m_:bO)=>(Ki m_).bind λ(bX:aA)=>gd (dx 40 (s11.2++[bX]).length) (some (.inl ((IntKind.i64.wrap (s11.1+1)),(s11.2++[bX]))))) (some (.inr s11.2))
def Ol (l:List bO) (n:Int) (s11:Int×List aA):Option ((List aA)):=bQ (yJ l n) KK s11
theorem abY (d:Nat) {l:List bO} {n:Int} {s11:Int×List aA} {r:(Int×List aA)⊕((List aA))} (h:yJ l n s11=some r):bN (aV (aF aH (d+4)) KK 27 Z8) 0 (jJ [0,1,5,6] (AO l n s11)) (aav l n r):=by
 unfold yJ at h
 exact bC nB adk h (.bd λdD LK=>.ite (λR4=>Jn [0,1,5,6] [none,none,none,none] [] [.slice none 5 0 0 true,.undef,.slice none 5 0 0 true,.undef] (j6 (il R4) (Rf (d+4) LK)) <| .bd λm_ ND=>Ix Jj 21 ND <| .bd λbX ML=>iN (aat (d+0) ML) <| .gd λq16=>Ap kK 25 q16 <| E1 [0,1,5,6] [none,none,none,none] [] [.slice none 5 0 0 true,.undef,.slice none 5 0 0 true,.undef]) λR4=>Jn [0,1,5,6] [none,none,none,none] [] [.slice none 5 0 0 true,.undef,.slice none 5 0 0 true,.undef] (j6 (Ai R4) (Rf (d+4) LK)) <| E1 [5] [none] [] [.slice none 5 0 0 true])
theorem abZ (d:Nat) {l:List bO} {n:Int} {s11:Int×List aA} {r:(List aA)} (h:Ol l n s11=some r):bN (eY (aV (aF aH (d+4)) KK 27 Z8) [0,1,5,6] KK) 0 (jJ [0,1,5,6] (AO l n s11)) (Et l n r) :=
 cO (st:=AO l n) (fin:=Et l n) (step:=yJ l n) (λe=>by (intro h;cases h)) (λs x h=>abY d h) KK s11 r h
def Om (l:List bO) (n:Int):Option (List aA) :=
 (Ol l n (0,[])).bind λ(jP:(List aA))=>some jP
def Uk (l:List bO) (n:Int) (r:List aA):AV×WH:=((eP r),[])
theorem ajC (d:Nat) {l:List bO} {n:Int} {r:List aA} (h:Om l n=some r):Spec (aF aH (d+5)) 33 [(bn l),(.int .i64 n)] [] (Uk l n r).1 (Uk l n r).2:=by
 unfold Om at h
 exact aZ nB awY h (.z 4 [.slice none 5 0 0 true] <| .z 5 [.slice none 5 0 0 true] <| .bd λjP Jm=>Lp [none,none,Tw,none] [] [.slice none 5 0 0 true,.undef,.slice none 5 0 0 true,.undef] (abZ (d+0) Jm) <| Fn Fo [.slice none 5 0 0 true] none)
def LM (n:Int):Option (List UInt8) :=
 (bG n 16).bind λ(x1:Int)=>(bV ([[97],[98],[99],[100],[101],[102],[103],[104],[107,97],[107,98],[107,99],[107,100],[120],[121],[122,122],[101,105,103,104,116,107,101,121]]:List (List UInt8)) x1).bind λ(x2:List UInt8)=>some x2
def aaw (n:Int) (r:List UInt8):AV×WH:=((.str r),[])
theorem aax (d:Nat) {n:Int} {r:List UInt8} (h:LM n=some r):Spec (aF aH (d+2)) 84 [(.int .i64 n)] [] (aaw n r).1 (aaw n r).2:=by
 unfold LM at h
 exact aZ nB azh h (.bd λx1 q1=>iN (bJ (d+0) q1) <| .bd λx2 q2=>.v 6 (.str x2) <| .ob (aky R_S q2:wP (.index false 16 1 (.c (.agg [(.str [97]),(.str [98]),(.str [99]),(.str [100]),(.str [101]),(.str [102]),(.str [103]),(.str [104]),(.str ([107,97])),(.str ([107,98])),(.str ([107,99])),(.str ([107,100])),(.str [120]),(.str [121]),(.str ([122,122])),(.str ([101,105,103,104,116,107,101,121]))])) (.c (.int .i64 x1)))=some (.str x2)) <| Fn Fo [] none)
abbrev ahq (x1:Int) (value:Int) (old:Int) (x2:List UInt8):Fast×WH:=([(2,(.int .i64 value)),(3,(.int .i64 old)),(8,(.ptr (some (0,0)))),(9,(.ptr (some (1,0))))],[(some (.cells (gF (⟨0,([]:List UInt8),([]:List UInt8),([]:List UInt8)⟩:bE)) false false)),(some (.cells (gF (⟨(IntKind.i64.wrap (1+x1)),x2,([]:List UInt8),([]:List UInt8)⟩:bE)) false false))])
def ae1 (x1:Int) (value:Int) (old:Int) (x2:List UInt8):Bool→Ex×Fast×WH:=λe=>(.normal,[(2,(.int .i64 value)),(3,(.int .i64 old)),(8,(.ptr (some (0,0)))),(9,(.ptr (some (1,0)))),(23,(.bool e))],[(some (.cells (gF (⟨0,([]:List UInt8),([]:List UInt8),([]:List UInt8)⟩:bE)) false false)),(some (.cells (gF (⟨(IntKind.i64.wrap (1+x1)),x2,([]:List UInt8),([]:List UInt8)⟩:bE)) false false))])
def Oo (x1:Int) (value:Int) (old:Int) (x2:List UInt8):Option (Bool) :=
 cond ((IntKind.i64.wrap (1+x1))==2) (some true) (some ((IntKind.i64.wrap (1+x1))==4))
theorem ajD (d:Nat) {x1:Int} {value:Int} {old:Int} {x2:List UInt8} {r:Bool} (h:Oo x1 value old x2=some r):bN (aV (aF aH (d+0)) KK 34 adr) 0 (ahq x1 value old x2) (ae1 x1 value old x2 r):=by
 unfold Oo at h
 exact bC nB aeH h (.br 19 (λ_=>E0 [2,3,8,9,23]) λ_=>E0 [2,3,8,9,23])
abbrev ahr (x1:Int) (value:Int) (old:Int) (x2:List UInt8):Fast×WH:=([(2,(.int .i64 value)),(3,(.int .i64 old)),(8,(.ptr (some (0,0)))),(9,(.ptr (some (1,0))))],[(some (.cells (gF (⟨0,([]:List UInt8),([]:List UInt8),([]:List UInt8)⟩:bE)) false false)),(some (.cells (gF (⟨(IntKind.i64.wrap (1+x1)),x2,([]:List UInt8),([]:List UInt8)⟩:bE)) false false))])
def ae2 (x1:Int) (value:Int) (old:Int) (x2:List UInt8):bE→Ex×Fast×WH:=λe=>(.normal,[(3,(.int .i64 old)),(8,(.ptr (some (0,0)))),(9,(.ptr (some (1,0))))],[(some (.cells (gF (⟨0,([]:List UInt8),([]:List UInt8),([]:List UInt8)⟩:bE)) false false)),(some (.cells (gF e) false false))])
def Oq (x1:Int) (value:Int) (old:Int) (x2:List UInt8):Option (bE) :=
 (Oo x1 value old x2).bind λ(x3:Bool)=>cond x3 ((yH value).bind λ(x4:List UInt8)=>some (⟨(IntKind.i64.wrap (1+x1)),x2,x4,([]:List UInt8)⟩:bE)) (some (⟨(IntKind.i64.wrap (1+x1)),x2,([]:List UInt8),([]:List UInt8)⟩:bE))
theorem ajE (d:Nat) {x1:Int} {value:Int} {old:Int} {x2:List UInt8} {r:bE} (h:Oq x1 value old x2=some r):bN (aV (aF aH (d+2)) KK 34 agF) 0 (ahr x1 value old x2) (ae2 x1 value old x2 r):=by
 unfold Oq at h
 exact bC nB agG h (.bd λx3 q3=>Jn [2,3,8,9] [none,none,none,none] [] [] (ajD (d+2) q3) <| .br 23 (λ_=>.bd λx4 q4=>iN (LJ (d+0) q4) <| .st none <| E0 [3,8,9]) λ_=>E0 [3,8,9])
def aay (kind:Int) (key:Int) (value:Int) (old:Int):Option (bE) :=
 (bG kind 4).bind λ(x1:Int)=>(LM key).bind λ(x2:List UInt8)=>(Oq x1 value old x2).bind λ(x5:bE)=>cond (x5.Kind==4) ((yH old).bind λ(x6:List UInt8)=>some (⟨x5.Kind,x5.Key,x5.Value,x6⟩:bE)) (some x5)
def adK (kind:Int) (key:Int) (value:Int) (old:Int) (r:bE):AV×WH:=((.agg (gF r)),[])
theorem aup (d:Nat) {kind:Int} {key:Int} {value:Int} {old:Int} {r:bE} (h:aay kind key value old=some r):Spec (aF aH (d+3)) 77 [(.int .i64 kind),(.int .i64 key),(.int .i64 value),(.int .i64 old)] [] (adK kind key value old r).1 (adK kind key value old r).2:=by
 unfold aay at h
 exact aZ nB azb h (.bd λx1 q1=>iN (bJ (d+1) q1) <| .bd λx2 q2=>iN (aax (d+0) q2) <| .st none <| .bd λx5 q5=>Jn [2,3,8,9] [none,none,none,none] [] [] (ajE (d+0) q5) <| .br 29 (λ_=>.bd λx6 q6=>iN (LJ (d+0) q6) <| .st none <| .st none <| Fn Fo [] none) λ_=>.st none <| Fn Fo [] none)
def IJ (dV:List UInt8) (n:Int):Option (List UInt8) :=
 cond (decide ((dV.length:Int) > n)) ((MF dV 0 n).bind λ(x1:List UInt8)=>some x1) (some dV)
def XG (dV:List UInt8) (n:Int) (r:List UInt8):AV×WH:=((.str r),[])
theorem adL (d:Nat) {dV:List UInt8} {n:Int} {r:List UInt8} (h:IJ dV n=some r):Spec (aF aH (d+1)) 78 [(.str dV),(.int .i64 n)] [] (XG dV n r).1 (XG dV n r).2:=by
 unfold IJ at h
 exact aZ nB azc h (.br 8 (λ_=>.bd λx1 q1=>.v 11 (.str x1) <| .ob (ang q1:wP (.qy (.c (.str dV)) none (some (.c (.int .i64 n))))=some (.str x1)) <| Fn Fo [] none) λ_=>Fn Fo [] none)
def Jo (aQ:dH):Option (aU) :=
 (bG aQ.Client 4).bind λ(x1:Int)=>(bG aQ.Seq 9).bind λ(x2:Int)=>(aay aQ.Kind aQ.Key aQ.Value aQ.Old).bind λ(x3:bE)=>(bG aQ.ug 16).bind λ(x4:Int)=>cond (x4==10) ((IJ aQ.Text 12).bind λ(x5:List UInt8)=>some (⟨x1,(IntKind.i64.wrap (1+x2)),(⟨x3.Kind,x5,x3.Value,x3.Old⟩:bE)⟩:aU)) (cond (x4==11) ((IJ aQ.Text 20).bind λ(x6:List UInt8)=>some (⟨x1,(IntKind.i64.wrap (1+x2)),(⟨x3.Kind,x3.Key,x6,x3.Old⟩:bE)⟩:aU)) (cond (x4==12) ((bG (IntKind.i64.wrap (Int.tdiv aQ.ug 16)) 8).bind λ(x7:Int)=>some (⟨x1,(IntKind.i64.wrap (1+x2)),(⟨(IntKind.i64.wrap (x7 - 1)),x3.Key,x3.Value,x3.Old⟩:bE)⟩:aU)) (cond (x4==13) ((bG (IntKind.i64.wrap (Int.tdiv aQ.ug 16)) 9).bind λ(x8:Int)=>some (⟨(IntKind.i64.wrap (x8 - 2)),(IntKind.i64.wrap (1+x2)),x3⟩:aU)) (cond (x4==14) ((AL (IntKind.i64.wrap (Int.tdiv aQ.ug 16))).bind λ(x9:Int)=>some (⟨x1,x9,x3⟩:aU)) (cond (x4==15) (some (⟨0,0,(⟨0,([]:List UInt8),([]:List UInt8),([]:List UInt8)⟩:bE)⟩:aU)) (some (⟨x1,(IntKind.i64.wrap (1+x2)),x3⟩:aU)))))))
def aaz (aQ:dH) (r:aU):AV×WH:=((.agg (uE r)),[])
theorem Ul (d:Nat) {aQ:dH} {r:aU} (h:Jo aQ=some r):Spec (aF aH (d+4)) 34 [(.agg (F9 aQ))] [] (aaz aQ r).1 (aaz aQ r).2:=by
 unfold Jo at h
 exact aZ nB ayB h (.bd λx1 q1=>iN (bJ (d+2) q1) <| .bd λx2 q2=>iN (bJ (d+2) q2) <| .bd λx3 q3=>iN (aup (d+0) q3) <| .st none <| .bd λx4 q4=>iN (bJ (d+2) q4) <| .br 24 (λ_=>.bd λx5 q5=>iN (adL (d+2) q5) <| .st none <| .st none <| Fn Fo [] none) λ_=>.br 31 (λ_=>.bd λx6 q6=>iN (adL (d+2) q6) <| .st none <| .st none <| Fn Fo [] none) λ_=>.br 38 (λ_=>.bd λx7 q7=>iN (bJ (d+2) q7) <| .st none <| .st none <| Fn Fo [] none) λ_=>.br 47 (λ_=>.bd λx8 q8=>iN (bJ (d+2) q8) <| .st none <| .st none <| Fn Fo [] none) λ_=>.br 55 (λ_=>.bd λx9 q9=>iN (yI (d+1) q9) <| .st none <| .st none <| Fn Fo [] none) λ_=>.br 62 (λ_=>.st none <| .st none <| Fn Fo [] none) λ_=>.st none <| Fn Fo [] none)
def Cz (p_r:aU):Option (Bool) :=
 some (p_r.Client==0&&(p_r.Seq==0&&(p_r.Op.Kind==0&&(p_r.Op.Key==([]:List UInt8)&&(p_r.Op.Value==([]:List UInt8)&&(p_r.Op.Old==([]:List UInt8)&&true))))))
def Ot (p_r:aU) (r:Bool):AV×WH:=((.bool r),[])
theorem ae3 (d:Nat) {p_r:aU} {r:Bool} (h:Cz p_r=some r):Spec (aF aH (d+1)) 79 [(.agg (uE p_r))] [] (Ot p_r r).1 (Ot p_r r).2:=by
 unfold Cz at h
 exact aZ nB azd h (Fn Fo [] none)
abbrev V9 (o:bE):Fast×WH:=([(1,(.ptr (some (0,0))))],[(some (.cells (gF o) false false))])
def Um (o:bE):Unit⊕Unit→Ex×Fast×WH:=fun
 | .inl e=>(.ret,[(2,(.bool false))],[])
 | .inr e=>(.normal,[(1,(.ptr (some (0,0))))],[(some (.cells (gF o) false false))])
def Dg (o:bE):Option (Unit⊕Unit) :=
 cond (decide (o.Kind < 1)) (some (.inl ())) (cond (decide (o.Kind > 4)) (some (.inl ())) (cond (decide ((o.Key.length:Int) < 1)) (some (.inl ())) (cond (decide ((o.Key.length:Int) > 8)) (some (.inl ())) (cond (decide ((o.Value.length:Int) > 16)) (some (.inl ())) (cond (decide ((o.Old.length:Int) > 16)) (some (.inl ())) (some (.inr ())))))))
theorem MN (d:Nat) {o:bE} {r:Unit⊕Unit} (h:Dg o=some r):bN (aV (aF aH (d+0)) KK 58 agR) 0 (V9 o) (Um o r):=by
 unfold Dg at h
 exact bC nB agS h (.br 6 (λ_=>E0 [2]) λ_=>.br 11 (λ_=>E0 [2]) λ_=>.br 17 (λ_=>E0 [2]) λ_=>.br 23 (λ_=>E0 [2]) λ_=>.br 29 (λ_=>E0 [2]) λ_=>.br 34 (λ_=>E0 [2]) λ_=>E0 [1])
def zC (o:bE):Option (Bool) :=
 (Dg o).bind λ(x1:Unit⊕Unit)=>cond (jO x1) (some false) (cond (o.Value==([]:List UInt8)) (cond (o.Old==([]:List UInt8)) (some true) (some (o.Kind==4))) (cond (o.Kind==2) (cond (o.Old==([]:List UInt8)) (some true) (some (o.Kind==4))) (cond (o.Kind==4) (cond (o.Old==([]:List UInt8)) (some true) (some (o.Kind==4))) (some false))))
def Ou (o:bE) (r:Bool):AV×WH:=((.bool r),[])
theorem LP (d:Nat) {o:bE} {r:Bool} (h:zC o=some r):Spec (aF aH (d+1)) 110 [(.agg (gF o))] [] (Ou o r).1 (Ou o r).2:=by
 unfold zC at h
 exact aZ nB axb h (.sk <| .bd λx1 q1=>.ite (λhb2=>Jn [1] [none] [] [] (j6 (il hb2) (MN (d+0) q1)) <| Fn Fo [] none) λhb2=>Jn [1] [none] [] [] (j6 (Ai hb2) (MN (d+0) q1)) <| .br 38 (λ_=>.br 52 (λ_=>Fn Fo [] none) λ_=>Fn Fo [] none) λ_=>.br 43 (λ_=>.br 52 (λ_=>Fn Fo [] none) λ_=>Fn Fo [] none) λ_=>.br 48 (λ_=>.br 52 (λ_=>Fn Fo [] none) λ_=>Fn Fo [] none) λ_=>Fn Fo [] none)
def zY (p_r:aU):Option (Bool) :=
 cond (decide (p_r.Client≥0)) (cond (decide (p_r.Client < 4)) (cond (decide (p_r.Seq≥1)) (cond (decide (p_r.Seq≤4611686018427387903)) ((zC p_r.Op).bind λ(x1:Bool)=>some x1) (some false)) (some false)) (some false)) (some false)
def MO (p_r:aU) (r:Bool):AV×WH:=((.bool r),[])
theorem Rh (d:Nat) {p_r:aU} {r:Bool} (h:zY p_r=some r):Spec (aF aH (d+2)) 80 [(.agg (uE p_r))] [] (MO p_r r).1 (MO p_r r).2:=by
 unfold zY at h
 exact aZ nB aze h (.br 6 (λ_=>.br 11 (λ_=>.br 16 (λ_=>.br 21 (λ_=>.bd λx1 q1=>iN (LP (d+0) q1) <| Fn Fo [] none) λ_=>Fn Fo [] none) λ_=>Fn Fo [] none) λ_=>Fn Fo [] none) λ_=>Fn Fo [] none)
def ql (p_r:aU):Option (Bool) :=
 (Cz p_r).bind λ(x1:Bool)=>cond x1 (some true) ((zY p_r).bind λ(x2:Bool)=>some x2)
def Ri (p_r:aU) (r:Bool):AV×WH:=((.bool r),[])
theorem DR (d:Nat) {p_r:aU} {r:Bool} (h:ql p_r=some r):Spec (aF aH (d+3)) 35 [(.agg (uE p_r))] [] (Ri p_r r).1 (Ri p_r r).2:=by
 unfold ql at h
 exact aZ nB ayC h (.bd λx1 q1=>iN (ae3 (d+1) q1) <| .br 5 (λ_=>Fn Fo [] none) λ_=>.bd λx2 q2=>iN (Rh (d+0) q2) <| Fn Fo [] none)
def oW (aY:List av) (key:List UInt8) (s3:Int):List AV×WH:=([(.ptr (some (0,0))),(.str key),(.int .i64 s3)],[(some (.cells [(.acc 1 0 2 aY.length true)] false false)),(some (.cells (aD aY) false true))])
def sW (aY:List av) (key:List UInt8):(Int×Bool)⊕Unit→Ex×Fast×WH:=fun
 | .inl e=>(.ret,[(4,(.int .i64 e.1)),(5,(.bool e.2))],[(some (.cells [(.acc 1 0 2 aY.length true)] false false)),(some (.cells (aD aY) false true))])
 | .inr e=>((.exit 0),[(0,(.ptr (some (0,0))))],[(some (.cells [(.acc 1 0 2 aY.length true)] false false)),(some (.cells (aD aY) false true))])
abbrev Np (aY:List av) (key:List UInt8):=dF [0,1,6] (oW aY key) (sW aY key)
def l6 (aY:List av) (key:List UInt8) (s3:Int):Option ((Int)⊕((Int×Bool)⊕Unit)) :=
 cond (decide (s3 < (aY.length:Int))) ((bV aY s3).bind λ(x4:av)=>cond (!(Op.bytesLess x4.Key key)) ((bV aY s3).bind λ(x5:av)=>some (.inr (.inl (s3,(x5.Key==key))))) (some (.inl (IntKind.i64.wrap (s3+1))))) (some (.inr (.inr ())))
def zD (aY:List av) (key:List UInt8) (s3:Int):Option ((Int×Bool)⊕Unit):=bQ (l6 aY key) KK s3
theorem Ov (d:Nat) {aY:List av} {key:List UInt8} {s3:Int} {r:(Int)⊕((Int×Bool)⊕Unit)} (h:l6 aY key s3=some r):bN (aV (aF aH (d+0)) KK 42 Ug) 2 (jJ [0,1,6] (oW aY key s3)) (Np aY key r):=by
 unfold l6 at h
 exact bC nB aao h (.br 13 (λ_=>.bd λx4 q4=>Ia aO 21 1 q4 <| Ld aO 23 false 1 0 q4 (.str x4.Key) rfl <| .br 25 (λ_=>.bd λx5 q5=>Ia aO 32 1 q5 <| Ld aO 34 false 1 0 q5 (.str x5.Key) rfl <| E0 [4,5]) λ_=>E0 [0,1,6]) λ_=>E0 [0])
theorem DT (d:Nat) {aY:List av} {key:List UInt8} {s3:Int} {r:(Int×Bool)⊕Unit} (h:zD aY key s3=some r):bN (eY (aV (aF aH (d+0)) KK 42 Ug) [0,1,6] KK) 2 (jJ [0,1,6] (oW aY key s3)) (sW aY key r) :=
 cO (st:=oW aY key) (fin:=sW aY key) (step:=l6 aY key) (λe=>by rcases e with e | e<;>(intro h;cases h)) (λs x h=>Ov d h) KK s3 r h
def qm (key:List UInt8) (aY:List av):Option (Int×Bool) :=
 (zD aY key 0).bind λ(x6:(Int×Bool)⊕Unit)=>cond (jO x6) (some ((zA x6).1,(zA x6).2)) (some ((aY.length:Int),false))
def ER (key:List UInt8) (aY:List av) (r:Int×Bool):AV×WH:=((.tuple [(.int .i64 r.1),(.bool r.2)]),[(some (.cells [(.acc 1 0 2 aY.length true)] false false)),(some (.cells (aD aY) false true))])
theorem Un (d:Nat) {key:List UInt8} {aY:List av} {r:Int×Bool} (h:qm key aY=some r):Spec (aF aH (d+1)) 134 [(.ptr (some (0,0))),(.str key)] [(some (.cells [(.acc 1 0 2 aY.length true)] false false)),(some (.cells (aD aY) false true))] (ER key aY r).1 (ER key aY r).2:=by
 unfold qm at h
 exact aZ nB au5 h (.bd λx6 q6=>.ite (λEu=>Lp [none,none,none] [] [] (j6 (il Eu) (DT (d+0) q6)) <| Fn Fo [] none) λEu=>Lp [none,none,none] [] [] (j6 (Ai Eu) (DT (d+0) q6)) <| Fn Fo [] none)
abbrev Qu (x2:Int×Bool) (aY:List av) (o:bE):Fast×WH:=([(0,(.ptr (some (0,0)))),(3,(.ptr (some (2,0)))),(4,(.ptr (some (3,0)))),(5,(.int .i64 x2.1)),(6,(.bool x2.2))],[(some (.cells [(.acc 1 0 2 aY.length true)] false false)),(some (.cells (aD aY) false true)),(some (.cells (gF o) false false)),(some (.cells (dZ (⟨0,([]:List UInt8)⟩:aB)) false false))])
def Ow (x2:Int×Bool) (aY:List av) (o:bE):Unit⊕Unit→Ex×Fast×WH:=fun
 | .inl e=>(.ret,[(4,(.ptr (some (2,0))))],[(some (.cells [(.acc 1 0 2 aY.length true)] false false)),(some (.cells (aD aY) false true)),(some (.cells (dZ (⟨5,([]:List UInt8)⟩:aB)) false false))])
 | .inr e=>(.normal,[(0,(.ptr (some (0,0)))),(3,(.ptr (some (2,0)))),(4,(.ptr (some (3,0)))),(5,(.int .i64 x2.1)),(6,(.bool x2.2))],[(some (.cells [(.acc 1 0 2 aY.length true)] false false)),(some (.cells (aD aY) false true)),(some (.cells (gF o) false false)),(some (.cells (dZ (⟨0,([]:List UInt8)⟩:aB)) false false))])
def wY (x2:Int×Bool) (aY:List av) (o:bE):Option (Unit⊕Unit) :=
 cond (!x2.2) (cond (decide ((aY.length:Int)≥8)) (some (.inl ())) (some (.inr ()))) (some (.inr ()))
theorem Gd (d:Nat) {x2:Int×Bool} {aY:List av} {o:bE} {r:Unit⊕Unit} (h:wY x2 aY o=some r):bN (aV (aF aH (d+0)) KK 147 AB) 2 (Qu x2 aY o) (Ow x2 aY o r):=by
 unfold wY at h
 exact bC nB DN h (.br 40 (λ_=>.br 47 (λ_=>.st none <| E0 [4]) λ_=>E0 [0,3,4,5,6]) λ_=>E0 [0,3,4,5,6])
abbrev Qv (x2:Int×Bool) (x6:List av) (o:bE) (aY:List av):Fast×WH:=([(0,(.ptr (some (0,0)))),(4,(.ptr (some (2,0)))),(5,(.int .i64 x2.1)),(6,(.bool x2.2)),(7,(.acc 3 0 2 (x6++[(⟨o.Key,o.Value⟩:av)]).length true))],[(some (.cells [(.acc 1 0 2 aY.length true)] false false)),(some (.cells (aD aY) false true)),(some (.cells (dZ (⟨0,([]:List UInt8)⟩:aB)) false false)),(some (.cells (aD (x6++[(⟨o.Key,o.Value⟩:av)])) false true))])
def Ox (x2:Int×Bool) (x6:List av) (o:bE) (aY:List av):Int→Ex×Fast×WH:=λe=>(.normal,[(0,(.ptr (some (0,0)))),(4,(.ptr (some (2,0)))),(5,(.int .i64 e)),(7,(.acc 3 0 2 (x6++[(⟨o.Key,o.Value⟩:av)]).length true))],[(some (.cells [(.acc 1 0 2 aY.length true)] false false)),(some (.cells (aD aY) false true)),(some (.cells (dZ (⟨0,([]:List UInt8)⟩:aB)) false false)),(some (.cells (aD (x6++[(⟨o.Key,o.Value⟩:av)])) false true))])
def wZ (x2:Int×Bool) (x6:List av) (o:bE) (aY:List av):Option (Int) :=
 cond x2.2 (some (IntKind.i64.wrap (x2.1+1))) (some x2.1)
theorem R5 (d:Nat) {x2:Int×Bool} {x6:List av} {o:bE} {aY:List av} {r:Int} (h:wZ x2 x6 o aY=some r):bN (aV (aF aH (d+0)) KK 147 vP) 2 (Qv x2 x6 o aY) (Ox x2 x6 o aY r):=by
 unfold wZ at h
 exact bC nB zW h (.br 65 (λ_=>E1 [0,4,5,7] [none,none,none,none] [] [.undef,.undef,.undef,.slice none 2 0 0 true]) λ_=>E1 [0,4,5,7] [none,none,none,none] [] [.undef,.undef,.undef,.slice none 2 0 0 true])
def yK (o:bE) (aY:List av):Option (aB×List av) :=
 (zC o).bind λ(x1:Bool)=>cond (!x1) (some ((⟨1,([]:List UInt8)⟩:aB),aY)) ((qm o.Key aY).bind λ(x2:Int×Bool)=>cond (o.Kind==1) (cond (!x2.2) (some ((⟨4,([]:List UInt8)⟩:aB),aY)) ((bV aY x2.1).bind λ(x3:av)=>some ((⟨0,x3.Value⟩:aB),aY))) (cond (o.Kind==2) ((wY x2 aY o).bind λ(x4:Unit⊕Unit)=>cond (jO x4) (some ((⟨5,([]:List UInt8)⟩:aB),aY)) ((MF aY 0 x2.1).bind λ(x6:List av)=>gd (dx 32 x6.length) (gd (dx 32 (x6++[(⟨o.Key,o.Value⟩:av)]).length) ((wZ x2 x6 o aY).bind λ(x9:Int)=>(MF aY x9 aY.length).bind λ(x10:List av)=>gd (dx 32 ((x6++[(⟨o.Key,o.Value⟩:av)])++x10).length) (some ((⟨0,([]:List UInt8)⟩:aB),((x6++[(⟨o.Key,o.Value⟩:av)])++x10))))))) (cond (o.Kind==3) (cond (!x2.2) (some ((⟨4,([]:List UInt8)⟩:aB),aY)) ((MF aY 0 x2.1).bind λ(dD:List av)=>gd (dx 32 dD.length) ((MF aY (IntKind.i64.wrap (x2.1+1)) aY.length).bind λ(m_:List av)=>gd (dx 32 (dD++m_).length) (some ((⟨0,([]:List UInt8)⟩:aB),(dD++m_)))))) (cond (!x2.2) (some ((⟨4,([]:List UInt8)⟩:aB),aY)) ((bV aY x2.1).bind λ(mE:av)=>cond (!(mE.Value==o.Old)) ((bV aY x2.1).bind λ(jP:av)=>some ((⟨6,jP.Value⟩:aB),aY)) (gd (dx 32 aY.length) ((bV aY x2.1).bind λ(mh:av)=>some ((⟨0,([]:List UInt8)⟩:aB),(aY.set x2.1.toNat (⟨mh.Key,o.Value⟩:av))))))))))
def mF (o:bE) (aY:List av) (r:aB×List av):AV×WH:=((.agg (dZ r.1)),[(some (.cells [(.acc 2 0 2 r.2.length true)] false false)),none,(some (.cells (aD r.2) false true))])
theorem Ye (d:Nat) {o:bE} {aY:List av} {r:aB×List av} (h:yK o aY=some r):Spec (aF aH (d+2)) 114 [(.ptr (some (0,0))),(.agg (gF o))] [(some (.cells [(.acc 1 0 2 aY.length true)] false false)),(some (.cells (aD aY) false true))] (mF o aY r).1 (mF o aY r).2:=by
 unfold yK at h
 exact aZ nB au3 h (.bd λx1 q1=>iN (LP (d+0) q1) <| .br 11 (λ_=>.st none <| Fn Fo [] Tw) λ_=>.bd λx2 q2=>Cl0 (Un (d+0) q2) <| .br 22 (λ_=>.br 25 (λ_=>.st none <| Fn Fo [] Tw) λ_=>.bd λx3 q3=>Ia aO 32 1 q3 <| Ld aO 34 false 1 1 q3 (.str x3.Value) rfl <| .st none <| Fn Fo [] Tw) λ_=>.br 36 (λ_=>.bd λx4 q4=>.ite (λhb5=>Jn [0,3,4,5,6] [none,none,none,none,none] [] [] (j6 (il hb5) (Gd (d+1) q4)) <| Fn Fo [] Tw) λhb5=>Jn [0,3,4,5,6] [none,none,none,none,none] [] [] (j6 (Ai hb5) (Gd (d+1) q4)) <| .bd λx6 q6=>.v 55 (.acc 1 0 2 x6.length false) <| .ob (ZR aO q6:wP (.slice 2 (.c (.acc 1 0 2 aY.length true)) none (some (.c (.int .i64 x2.1))) none)=some (.acc 1 0 2 x6.length false)) <| .gd λq7=>.ap 56 x6.length (aD x6) <| .ob (by (try rw [rR aO q6]);(try rw [mq aO q6]);simp:0+x6.length=x6.length) <| .ob (by (try rw [rR aO q6]);(try rw [mq aO q6]);first | rfl | simp [aD]:aD []++((aD aY).drop (0)).take (x6.length * 2)=aD x6) <| .ob q7 <| .gd λq8=>.ap 64 (x6++[(⟨o.Key,o.Value⟩:av)]).length (aD (x6++[(⟨o.Key,o.Value⟩:av)])) <| .ob (by (try rw [rR aO q6]);(try rw [mq aO q6]);simp:x6.length+1=(x6++[(⟨o.Key,o.Value⟩:av)]).length) <| .ob (by (try rw [rR aO q6]);(try rw [mq aO q6]);exact (Row.app aO _ _).symm:aD x6++aD ([(⟨o.Key,o.Value⟩:av)])=aD (x6++[(⟨o.Key,o.Value⟩:av)])) <| .ob q8 <| .bd λx9 q9=>Jn [0,4,5,6,7] [none,none,none,none,none] [] [.undef,.undef,.undef,.undef,.slice none 2 0 0 true] (R5 (d+1) q9) <| .bd λx10 J_=>.v 75 (.acc 1 (0+x9.toNat * 2) 2 x10.length false) <| .ob (by (try rw [rR aO q6]);(try rw [mq aO q6]);exact agi aO J_:wP (.slice 2 (.c (.acc 1 0 2 aY.length true)) (some (.c (.int .i64 x9))) none none)=some (.acc 1 (0+x9.toNat * 2) 2 x10.length false)) <| .gd λHz=>.ap 76 ((x6++[(⟨o.Key,o.Value⟩:av)])++x10).length (aD ((x6++[(⟨o.Key,o.Value⟩:av)])++x10)) <| .ob (by (try rw [rR aO q6]);(try rw [mq aO q6]);(try rw [TT aO J_]);exact aex _ _:(x6++[(⟨o.Key,o.Value⟩:av)]).length+x10.length=((x6++[(⟨o.Key,o.Value⟩:av)])++x10).length) <| .ob (by (try rw [rR aO q6]);(try rw [mq aO q6]);(try rw [TT aO J_]);exact (Row.app aO _ _).symm:aD (x6++[(⟨o.Key,o.Value⟩:av)])++((aD aY).drop (0+x9.toNat * 2)).take (x10.length * 2)=aD ((x6++[(⟨o.Key,o.Value⟩:av)])++x10)) <| .ob Hz <| .st none <| .st none <| .kl [1] <| Fn Fo [] Tw) λ_=>.br 80 (λ_=>.br 83 (λ_=>.st none <| Fn Fo [] Tw) λ_=>.bd λdD LK=>.v 92 (.acc 1 0 2 dD.length false) <| .ob (ZR aO LK:wP (.slice 2 (.c (.acc 1 0 2 aY.length true)) none (some (.c (.int .i64 x2.1))) none)=some (.acc 1 0 2 dD.length false)) <| .gd λYf=>.ap 93 dD.length (aD dD) <| .ob (by (try rw [rR aO LK]);(try rw [mq aO LK]);simp:0+dD.length=dD.length) <| .ob (by (try rw [rR aO LK]);(try rw [mq aO LK]);first | rfl | simp [aD]:aD []++((aD aY).drop (0)).take (dD.length * 2)=aD dD) <| .ob Yf <| .bd λm_ ND=>.v 100 (.acc 1 (0+(IntKind.i64.wrap (x2.1+1)).toNat * 2) 2 m_.length false) <| .ob (by (try rw [rR aO LK]);(try rw [mq aO LK]);exact agi aO ND:wP (.slice 2 (.c (.acc 1 0 2 aY.length true)) (some (.c (.int .i64 (IntKind.i64.wrap (x2.1+1))))) none none)=some (.acc 1 (0+(IntKind.i64.wrap (x2.1+1)).toNat * 2) 2 m_.length false)) <| .gd λML=>.ap 101 (dD++m_).length (aD (dD++m_)) <| .ob (by (try rw [rR aO LK]);(try rw [mq aO LK]);(try rw [TT aO ND]);exact aex _ _:dD.length+m_.length=(dD++m_).length) <| .ob (by (try rw [rR aO LK]);(try rw [mq aO LK]);(try rw [TT aO ND]);exact (Row.app aO _ _).symm:aD dD++((aD aY).drop (0+(IntKind.i64.wrap (x2.1+1)).toNat * 2)).take (m_.length * 2)=aD (dD++m_)) <| .ob ML <| .st none <| .st none <| .kl [1] <| Fn Fo [] Tw) λ_=>.br 105 (λ_=>.st none <| Fn Fo [] Tw) λ_=>.bd λmE q16=>Ia aO 115 1 q16 <| Ld aO 117 false 1 1 q16 (.str mE.Value) rfl <| .br 109 (λ_=>.bd λjP Jm=>Ia aO 126 1 Jm <| Ld aO 128 false 1 1 Jm (.str jP.Value) rfl <| .st none <| Fn Fo [] Tw) λ_=>.gd λV_=>Ap0 aO 135 V_ <| .bd λmh Qw=>Ia aO 140 5 Qw <| .st (some (aD (aY.set x2.1.toNat (⟨mh.Key,o.Value⟩:av)))) <| .ob (F8 (o:=1) aO Qw rfl:Xv (aD aY) (0+x2.1.toNat * 2+1) [(.str o.Value)]=some (aD (aY.set x2.1.toNat (⟨mh.Key,o.Value⟩:av)))) <| .st none <| .st none <| .kl [1] <| .xQ (.fin (some false) [] (some true)) _ (λr=>@Eq AV (.agg (dZ (⟨0,([]:List UInt8)⟩:aB))) (mF o aY r).1∧@Eq WH [(some (.cells [(.acc 2 0 2 aY.length true)] false false)),none,(some (.cells (aD (aY.set x2.1.toNat (⟨mh.Key,o.Value⟩:av))) false true))] (mF o aY r).2) (by show _∧_;(try rw [show AV.list 2 aY.length (aD (aY.set x2.1.toNat (⟨mh.Key,o.Value⟩:av))) false=bL (aY.set x2.1.toNat (⟨mh.Key,o.Value⟩:av)) from by simp only [bL,List.length_set]]);refine ⟨?_, ?_⟩<;>first | rfl | (simp only [mF,List.length_set,List.length_append,List.length_replicate,List.length_cons,List.length_nil,List.length_take,List.length_drop,Nat.add_zero,Nat.zero_add];done) | simp [mF]))
def w9 (l:List av) (s7:Int×List av):List AV×WH:=([(bL l),(.ptr (some (0,0))),(.ptr (some (1,0))),(.int .i64 s7.1)],[(some (.cells [(.acc 2 0 2 0 true)] false false)),(some (.cells [(.acc 3 0 2 s7.2.length true)] false false)),(some (.cells (aD []) false true)),(some (.cells (aD s7.2) false true))])
def AP (l:List av):(List av)→Ex×Fast×WH:=λe=>((.exit 0),[(2,(.ptr (some (0,0)))),(3,(.ptr (some (1,0))))],[(some (.cells [(.acc 2 0 2 0 true)] false false)),(some (.cells [(.acc 3 0 2 e.length true)] false false)),(some (.cells (aD []) false true)),(some (.cells (aD e) false true))])
abbrev Wd (l:List av):=dF [0,2,3,4] (w9 l) (AP l)
def qo (l:List av) (s7:Int×List av):Option ((Int×List av)⊕((List av))) :=
 cond (decide (s7.1 < (l.length:Int))) ((bV l s7.1).bind λ(x8:av)=>(bV l s7.1).bind λ(x9:av)=>(yK (⟨2,x8.Key,x9.Value,([]:List UInt8)⟩:bE) s7.2).bind λ(x10:aB×List av)=>some (.inl ((IntKind.i64.wrap (s7.1+1)),x10.2))) (some (.inr s7.2))
def Jp (l:List av) (s7:Int×List av):Option ((List av)):=bQ (qo l) KK s7
theorem Yg (d:Nat) {l:List av} {s7:Int×List av} {r:(Int×List av)⊕((List av))} (h:qo l s7=some r):bN (aV (aF aH (d+2)) KK 25 aeO) 0 (jJ [0,2,3,4] (w9 l s7)) (Wd l r):=by
 unfold qo at h
 exact bC nB ajq h (.br 9 (λ_=>.bd λx8 q8=>Ix aO 14 q8 <| .bd λx9 q9=>Ix aO 19 q9 <| .bd λx10 J_=>Cl0 (Ye (d+0) J_) <| E1 [0,2,3,4] [none,none,none,none] [] [.slice none 2 0 0 true,.undef,.undef,.undef]) λ_=>E0 [2,3])
theorem Yh (d:Nat) {l:List av} {s7:Int×List av} {r:(List av)} (h:Jp l s7=some r):bN (eY (aV (aF aH (d+2)) KK 25 aeO) [0,2,3,4] KK) 0 (jJ [0,2,3,4] (w9 l s7)) (AP l r) :=
 cO (st:=w9 l) (fin:=AP l) (step:=qo l) (λe=>by (intro h;cases h)) (λs x h=>Yg d h) KK s7 r h
def Gf (l:List av):Option (vN) :=
 (Jp l (0,[])).bind λ(bY:(List av))=>some (⟨bY⟩:vN)
def Oy (l:List av) (r:vN):AV×WH:=((.agg (aiE r)),[])
theorem ae4 (d:Nat) {l:List av} {r:vN} (h:Gf l=some r):Spec (aF aH (d+3)) 111 [(bL l)] [] (Oy l r).1 (Oy l r).2:=by
 unfold Gf at h
 exact aZ nB axc h (.z 2 [.slice none 2 0 0 true] <| .z 5 [.agg [.slice none 2 0 0 true]] <| .z 3 [.slice none 2 0 0 true] <| .st none <| .bd λbY Hz=>Lp [none,none,none,none] [Tw,Tw,Tw,Tw] [.slice none 2 0 0 true,.undef,.undef,.undef] (Yh (d+0) Hz) <| .st none <| Fn Fo [.agg [.slice none 2 0 0 true]] none)
def lJ (aY:List au) (client:Int) (s3:Int):List AV×WH:=([(.ptr (some (0,0))),(.int .i64 client),(.ptr (some (2,0))),(.int .i64 s3)],[(some (.cells [(.acc 1 0 4 aY.length true)] false false)),(some (.cells (aI aY) false true)),(some (.cells (bS (⟨0,0,(⟨0,([]:List UInt8)⟩:aB)⟩:au)) false false))])
def pY (aY:List au) (client:Int):au⊕Unit→Ex×Fast×WH:=fun
 | .inl e=>(.ret,[(4,(.ptr (some (2,0)))),(5,(.bool true))],[(some (.cells [(.acc 1 0 4 aY.length true)] false false)),(some (.cells (aI aY) false true)),(some (.cells (bS e) false false))])
 | .inr e=>((.exit 0),[(4,(.ptr (some (2,0))))],[(some (.cells [(.acc 1 0 4 aY.length true)] false false)),(some (.cells (aI aY) false true)),(some (.cells (bS (⟨0,0,(⟨0,([]:List UInt8)⟩:aB)⟩:au)) false false))])
abbrev Jq (aY:List au) (client:Int):=dF [0,1,4,6] (lJ aY client) (pY aY client)
def jQ (aY:List au) (client:Int) (s3:Int):Option ((Int)⊕(au⊕Unit)) :=
 cond (decide (s3 < (aY.length:Int))) ((bV aY s3).bind λ(x4:au)=>cond (x4.Client==client) ((bV aY s3).bind λ(x5:au)=>some (.inr (.inl x5))) (some (.inl (IntKind.i64.wrap (s3+1))))) (some (.inr (.inr ())))
def uL (aY:List au) (client:Int) (s3:Int):Option (au⊕Unit):=bQ (jQ aY client) KK s3
theorem Kj (d:Nat) {aY:List au} {client:Int} {s3:Int} {r:(Int)⊕(au⊕Unit)} (h:jQ aY client s3=some r):bN (aV (aF aH (d+0)) KK 34 Ud) 2 (jJ [0,1,4,6] (lJ aY client s3)) (Jq aY client r):=by
 unfold jQ at h
 exact bC nB aak h (.br 13 (λ_=>.bd λx4 q4=>Ia bW 21 1 q4 <| Ld bW 23 false 1 0 q4 (.int .i64 x4.Client) rfl <| .br 25 (λ_=>.bd λx5 q5=>Ia bW 31 1 q5 <| Ld bW 32 true 4 0 q5 (.agg (bS x5)) rfl <| .st none <| E0 [4,5]) λ_=>E0 [0,1,4,6]) λ_=>E0 [4])
theorem zZ (d:Nat) {aY:List au} {client:Int} {s3:Int} {r:au⊕Unit} (h:uL aY client s3=some r):bN (eY (aV (aF aH (d+0)) KK 34 Ud) [0,1,4,6] KK) 2 (jJ [0,1,4,6] (lJ aY client s3)) (pY aY client r) :=
 cO (st:=lJ aY client) (fin:=pY aY client) (step:=jQ aY client) (λe=>by rcases e with e | e<;>(intro h;cases h)) (λs x h=>Kj d h) KK s3 r h
def om (client:Int) (aY:List au):Option (au×Bool) :=
 (uL aY client 0).bind λ(x6:au⊕Unit)=>cond (jO x6) (some ((zA x6),true)) (some ((⟨0,0,(⟨0,([]:List UInt8)⟩:aB)⟩:au),false))
def AQ (client:Int) (aY:List au) (r:au×Bool):AV×WH:=((.tuple [(.agg (bS r.1)),(.bool r.2)]),[(some (.cells [(.acc 1 0 4 aY.length true)] false false)),(some (.cells (aI aY) false true))])
theorem Oz (d:Nat) {client:Int} {aY:List au} {r:au×Bool} (h:om client aY=some r):Spec (aF aH (d+1)) 113 [(.ptr (some (0,0))),(.int .i64 client)] [(some (.cells [(.acc 1 0 4 aY.length true)] false false)),(some (.cells (aI aY) false true))] (AQ client aY r).1 (AQ client aY r).2:=by
 unfold om at h
 exact aZ nB au2 h (.bd λx6 q6=>.ite (λEu=>Lp [none,none,none,none] [] [] (j6 (il Eu) (zZ (d+0) q6)) <| Fn Fo [] none) λEu=>Lp [none,none,none,none] [] [] (j6 (Ai Eu) (zZ (d+0) q6)) <| .st none <| Fn Fo [] none)
abbrev Jr (aQ:au) (x1:au×Bool) (aY:List au):Fast×WH:=([(0,(.ptr (some (0,0)))),(3,(.ptr (some (2,0)))),(5,(.ptr (some (3,0))))],[(some (.cells [(.acc 1 0 4 aY.length true)] false false)),(some (.cells (aI aY) false true)),(some (.cells (bS aQ) false false)),(some (.cells (bS x1.1) false false))])
def HV (aQ:au) (x1:au×Bool) (aY:List au):Unit⊕Unit→Ex×Fast×WH:=fun
 | .inl e=>(.ret,[(4,(.bool false))],[(some (.cells [(.acc 1 0 4 aY.length true)] false false)),(some (.cells (aI aY) false true))])
 | .inr e=>(.normal,[(0,(.ptr (some (0,0)))),(3,(.ptr (some (2,0))))],[(some (.cells [(.acc 1 0 4 aY.length true)] false false)),(some (.cells (aI aY) false true)),(some (.cells (bS aQ) false false))])
def jm (aQ:au) (x1:au×Bool) (aY:List au):Option (Unit⊕Unit) :=
 cond (decide (aQ.Client < 0)) (some (.inl ())) (cond (decide (aQ.Client≥4)) (some (.inl ())) (cond (decide (aQ.Seq < 1)) (some (.inl ())) (cond (decide (aQ.Seq≤x1.1.Seq)) (some (.inl ())) (some (.inr ())))))
theorem z8 (d:Nat) {aQ:au} {x1:au×Bool} {aY:List au} {r:Unit⊕Unit} (h:jm aQ x1 aY=some r):bN (aV (aF aH (d+0)) KK 96 V8) 2 (Jr aQ x1 aY) (HV aQ x1 aY r):=by
 unfold jm at h
 exact bC nB Ue h (.br 20 (λ_=>E0 [4]) λ_=>.br 25 (λ_=>E0 [4]) λ_=>.br 30 (λ_=>E0 [4]) λ_=>.br 36 (λ_=>E0 [4]) λ_=>E0 [0,3])
abbrev Js (kU:Bool×Int×List au) (aY:List au) (aQ:au):Fast×WH:=([(0,(.ptr (some (0,0)))),(3,(.ptr (some (2,0)))),(7,(.acc 3 0 4 kU.2.2.length true)),(8,(.bool kU.1)),(9,(.int .i64 kU.2.1))],[(some (.cells [(.acc 1 0 4 aY.length true)] false false)),(some (.cells (aI aY) false true)),(some (.cells (bS aQ) false false)),(some (.cells (aI kU.2.2) false true))])
def HY (kU:Bool×Int×List au) (aY:List au) (aQ:au):Bool→Ex×Fast×WH:=λe=>(.normal,[(0,(.ptr (some (0,0)))),(3,(.ptr (some (2,0)))),(7,(.acc 3 0 4 kU.2.2.length true)),(8,(.bool kU.1)),(9,(.int .i64 kU.2.1)),(60,(.bool e))],[(some (.cells [(.acc 1 0 4 aY.length true)] false false)),(some (.cells (aI aY) false true)),(some (.cells (bS aQ) false false)),(some (.cells (aI kU.2.2) false true))])
def o_ (kU:Bool×Int×List au) (aY:List au) (aQ:au):Option (Bool) :=
 cond (!kU.1) ((bV aY kU.2.1).bind λ(mh:au)=>some (decide (mh.Client≥aQ.Client))) (some false)
theorem Kk (d:Nat) {kU:Bool×Int×List au} {aY:List au} {aQ:au} {r:Bool} (h:o_ kU aY aQ=some r):bN (aV (aF aH (d+0)) KK 96 vQ) 2 (Js kU aY aQ) (HY kU aY aQ r):=by
 unfold o_ at h
 exact bC nB zX h (.br 48 (λ_=>.bd λmh Qw=>Ia bW 54 1 Qw <| Ld bW 56 false 1 0 Qw (.int .i64 mh.Client) rfl <| E1 [0,3,7,8,9,60] [none,none,none,none,none,none] [] [.undef,.undef,.slice none 4 0 0 true,.undef,.undef,.undef]) λ_=>E1 [0,3,7,8,9,60] [none,none,none,none,none,none] [] [.undef,.undef,.slice none 4 0 0 true,.undef,.undef,.undef])
abbrev Jt (kU:Bool×Int×List au) (aY:List au) (aQ:au):Fast×WH:=([(0,(.ptr (some (0,0)))),(3,(.ptr (some (2,0)))),(7,(.acc 3 0 4 kU.2.2.length true)),(8,(.bool kU.1)),(9,(.int .i64 kU.2.1))],[(some (.cells [(.acc 1 0 4 aY.length true)] false false)),(some (.cells (aI aY) false true)),(some (.cells (bS aQ) false false)),(some (.cells (aI kU.2.2) false true))])
def HZ (kU:Bool×Int×List au) (aY:List au) (aQ:au):(Bool×List au)→Ex×Fast×WH:=λe=>(.normal,[(0,(.ptr (some (0,0)))),(3,(.ptr (some (2,0)))),(7,(.acc 3 0 4 e.2.length true)),(8,(.bool e.1)),(9,(.int .i64 kU.2.1))],[(some (.cells [(.acc 1 0 4 aY.length true)] false false)),(some (.cells (aI aY) false true)),(some (.cells (bS aQ) false false)),(some (.cells (aI e.2) false true))])
def pq (kU:Bool×Int×List au) (aY:List au) (aQ:au):Option ((Bool×List au)) :=
 (o_ kU aY aQ).bind λ(x20:Bool)=>cond x20 (gd (dx 40 (kU.2.2++[aQ]).length) (some (true,(kU.2.2++[aQ])))) (some (kU.1,kU.2.2))
theorem Kl (d:Nat) {kU:Bool×Int×List au} {aY:List au} {aQ:au} {r:(Bool×List au)} (h:pq kU aY aQ=some r):bN (aV (aF aH (d+0)) KK 96 yc) 2 (Jt kU aY aQ) (HZ kU aY aQ r):=by
 unfold pq at h
 exact bC nB AJ h (.bd λx20 q20=>Jn [0,3,7,8,9] [none,none,none,none,none] [] [.undef,.undef,.slice none 4 0 0 true,.undef,.undef] (Kk (d+0) q20) <| .br 60 (λ_=>.gd λq21=>Ap bW 64 q21 <| E1 [0,3,7,8,9] [none,none,none,none,none] [] [.undef,.undef,.slice none 4 0 0 true,.undef,.undef]) λ_=>E1 [0,3,7,8,9] [none,none,none,none,none] [] [.undef,.undef,.slice none 4 0 0 true,.undef,.undef])
def lK (aY:List au) (aQ:au) (kU:Bool×Int×List au):List AV×WH:=([(.ptr (some (0,0))),(.ptr (some (2,0))),(.acc 3 0 4 kU.2.2.length true),(.bool kU.1),(.int .i64 kU.2.1)],[(some (.cells [(.acc 1 0 4 aY.length true)] false false)),(some (.cells (aI aY) false true)),(some (.cells (bS aQ) false false)),(some (.cells (aI kU.2.2) false true))])
def qb (aY:List au) (aQ:au):(Bool×List au)→Ex×Fast×WH:=λe=>((.exit 0),[(0,(.ptr (some (0,0)))),(3,(.ptr (some (2,0)))),(7,(.acc 3 0 4 e.2.length true)),(8,(.bool e.1))],[(some (.cells [(.acc 1 0 4 aY.length true)] false false)),(some (.cells (aI aY) false true)),(some (.cells (bS aQ) false false)),(some (.cells (aI e.2) false true))])
abbrev Ju (aY:List au) (aQ:au):=dF [0,3,7,8,9] (lK aY aQ) (qb aY aQ)
def iO (aY:List au) (aQ:au) (kU:Bool×Int×List au):Option ((Bool×Int×List au)⊕((Bool×List au))) :=
 cond (decide (kU.2.1 < (aY.length:Int))) ((pq kU aY aQ).bind λ(FP:(Bool×List au))=>(bV aY kU.2.1).bind λ(x23:au)=>cond (x23.Client != aQ.Client) ((bV aY kU.2.1).bind λ(x24:au)=>gd (dx 40 (FP.2++[x24]).length) (some (.inl (FP.1,(IntKind.i64.wrap (kU.2.1+1)),(FP.2++[x24]))))) (some (.inl (FP.1,(IntKind.i64.wrap (kU.2.1+1)),FP.2)))) (some (.inr (kU.1,kU.2.2)))
def kV (aY:List au) (aQ:au) (kU:Bool×Int×List au):Option ((Bool×List au)):=bQ (iO aY aQ) KK kU
theorem Km (d:Nat) {aY:List au} {aQ:au} {kU:Bool×Int×List au} {r:(Bool×Int×List au)⊕((Bool×List au))} (h:iO aY aQ kU=some r):bN (aV (aF aH (d+0)) KK 96 Uf) 2 (jJ [0,3,7,8,9] (lK aY aQ kU)) (Ju aY aQ r):=by
 unfold iO at h
 exact bC nB aam h (.br 43 (λ_=>.sk <| .bd λFP q22=>Jn [0,3,7,8,9] [none,none,none,none,none] [] [.undef,.undef,.slice none 4 0 0 true,.undef,.undef] (Kl (d+0) q22) <| .bd λx23 q23=>Ia bW 70 1 q23 <| Ld bW 72 false 1 0 q23 (.int .i64 x23.Client) rfl <| .br 75 (λ_=>.bd λx24 q24=>Ia bW 82 1 q24 <| Ld bW 83 true 4 0 q24 (.agg (bS x24)) rfl <| .gd λq25=>Ap bW 85 q25 <| E1 [0,3,7,8,9] [none,none,none,none,none] [] [.undef,.undef,.slice none 4 0 0 true,.undef,.undef]) λ_=>E1 [0,3,7,8,9] [none,none,none,none,none] [] [.undef,.undef,.slice none 4 0 0 true,.undef,.undef]) λ_=>E1 [0,3,7,8] [none,none,none,none] [] [.undef,.undef,.slice none 4 0 0 true,.undef])
theorem Kn (d:Nat) {aY:List au} {aQ:au} {kU:Bool×Int×List au} {r:(Bool×List au)} (h:kV aY aQ kU=some r):bN (eY (aV (aF aH (d+0)) KK 96 Uf) [0,3,7,8,9] KK) 2 (jJ [0,3,7,8,9] (lK aY aQ kU)) (qb aY aQ r) :=
 cO (st:=lK aY aQ) (fin:=qb aY aQ) (step:=iO aY aQ) (λe=>by (intro h;cases h)) (λs x h=>Km d h) KK kU r h
abbrev Jv (jd:(Bool×List au)) (aQ:au) (aY:List au):Fast×WH:=([(0,(.ptr (some (0,0)))),(3,(.ptr (some (2,0)))),(7,(.acc 3 0 4 jd.2.length true)),(8,(.bool jd.1))],[(some (.cells [(.acc 1 0 4 aY.length true)] false false)),(some (.cells (aI aY) false true)),(some (.cells (bS aQ) false false)),(some (.cells (aI jd.2) false true))])
def H6 (jd:(Bool×List au)) (aQ:au) (aY:List au):(List au)→Ex×Fast×WH:=λe=>(.normal,[(0,(.ptr (some (0,0)))),(7,(.acc 2 0 4 e.length true))],[(some (.cells [(.acc 1 0 4 aY.length true)] false false)),(some (.cells (aI aY) false true)),(some (.cells (aI e) false true))])
def jo (jd:(Bool×List au)) (aQ:au) (aY:List au):Option ((List au)) :=
 cond (!jd.1) (gd (dx 40 (jd.2++[aQ]).length) (some (jd.2++[aQ]))) (some jd.2)
theorem Ko (d:Nat) {jd:(Bool×List au)} {aQ:au} {aY:List au} {r:(List au)} (h:jo jd aQ aY=some r):bN (aV (aF aH (d+0)) KK 96 Jl) 2 (Jv jd aQ aY) (H6 jd aQ aY r):=by
 unfold jo at h
 exact bC nB Kg h (.br 87 (λ_=>.gd λq27=>Ap bW 91 q27 <| E1 [0,7] [none,none] [] [.undef,.slice none 4 0 0 true]) λ_=>E1 [0,7] [none,none] [] [.undef,.slice none 4 0 0 true])
def jL (aQ:au) (aY:List au):Option (Bool×List au) :=
 (om aQ.Client aY).bind λ(x1:au×Bool)=>(jm aQ x1 aY).bind λ(x2:Unit⊕Unit)=>cond (jO x2) (some (false,aY)) ((kV aY aQ (false,0,[])).bind λ(jd:(Bool×List au))=>(jo jd aQ aY).bind λ(x28:(List au))=>some (true,x28))
def AU (aQ:au) (aY:List au) (r:Bool×List au):AV×WH:=((.bool r.1),[(some (.cells [(.acc 2 0 4 r.2.length true)] false false)),none,(some (.cells (aI r.2) false true))])
theorem OA (d:Nat) {aQ:au} {aY:List au} {r:Bool×List au} (h:jL aQ aY=some r):Spec (aF aH (d+2)) 115 [(.ptr (some (0,0))),(.agg (bS aQ))] [(some (.cells [(.acc 1 0 4 aY.length true)] false false)),(some (.cells (aI aY) false true))] (AU aQ aY r).1 (AU aQ aY r).2:=by
 unfold jL at h
 exact aZ nB au4 h (.bd λx1 q1=>Cl0 (Oz (d+0) q1) <| .st none <| .bd λx2 q2=>.ite (λhb3=>Jn [0,3,5] [none,none,none] [] [] (j6 (il hb3) (z8 (d+1) q2)) <| Fn Fo [] Tw) λhb3=>Jn [0,3,5] [none,none,none] [] [] (j6 (Ai hb3) (z8 (d+1) q2)) <| .z 7 [.slice none 4 0 0 true] <| .bd λjd q26=>Lp [none,none,Tw,none,none] [] [.undef,.undef,.slice none 4 0 0 true,.undef,.undef] (Kn (d+1) q26) <| .bd λx28 q28=>Jn [0,3,7,8] [none,none,none,none] [] [.undef,.undef,.slice none 4 0 0 true,.undef] (Ko (d+1) q28) <| .st none <| .kl [1] <| Fn Fo [] Tw)
def rA (l:List au) (s5:Int×List au):List AV×WH:=([(dw l),(.ptr (some (0,0))),(.ptr (some (1,0))),(.int .i64 s5.1)],[(some (.cells [(.acc 2 0 4 0 true)] false false)),(some (.cells [(.acc 3 0 4 s5.2.length true)] false false)),(some (.cells (aI []) false true)),(some (.cells (aI s5.2) false true))])
def vR (l:List au):(List au)→Ex×Fast×WH:=λe=>((.exit 0),[(2,(.ptr (some (0,0)))),(3,(.ptr (some (1,0))))],[(some (.cells [(.acc 2 0 4 0 true)] false false)),(some (.cells [(.acc 3 0 4 e.length true)] false false)),(some (.cells (aI []) false true)),(some (.cells (aI e) false true))])
abbrev Qx (l:List au):=dF [0,2,3,4] (rA l) (vR l)
def kY (l:List au) (s5:Int×List au):Option ((Int×List au)⊕((List au))) :=
 cond (decide (s5.1 < (l.length:Int))) ((bV l s5.1).bind λ(x6:au)=>(jL x6 s5.2).bind λ(x7:Bool×List au)=>some (.inl ((IntKind.i64.wrap (s5.1+1)),x7.2))) (some (.inr s5.2))
def CB (l:List au) (s5:Int×List au):Option ((List au)):=bQ (kY l) KK s5
theorem R6 (d:Nat) {l:List au} {s5:Int×List au} {r:(Int×List au)⊕((List au))} (h:kY l s5=some r):bN (aV (aF aH (d+2)) KK 18 aeP) 0 (jJ [0,2,3,4] (rA l s5)) (Qx l r):=by
 unfold kY at h
 exact bC nB ajr h (.br 9 (λ_=>.bd λx6 q6=>Ix bW 14 q6 <| .bd λx7 q7=>Cl0 (OA (d+0) q7) <| E1 [0,2,3,4] [none,none,none,none] [] [.slice none 4 0 0 true,.undef,.undef,.undef]) λ_=>E0 [2,3])
theorem R7 (d:Nat) {l:List au} {s5:Int×List au} {r:(List au)} (h:CB l s5=some r):bN (eY (aV (aF aH (d+2)) KK 18 aeP) [0,2,3,4] KK) 0 (jJ [0,2,3,4] (rA l s5)) (vR l r) :=
 cO (st:=rA l) (fin:=vR l) (step:=kY l) (λe=>by (intro h;cases h)) (λs x h=>R6 d h) KK s5 r h
def yL (l:List au):Option (qD) :=
 (CB l (0,[])).bind λ(x8:(List au))=>some (⟨x8⟩:qD)
def IK (l:List au) (r:qD):AV×WH:=((.agg (abN r)),[])
theorem Yi (d:Nat) {l:List au} {r:qD} (h:yL l=some r):Spec (aF aH (d+3)) 112 [(dw l)] [] (IK l r).1 (IK l r).2:=by
 unfold yL at h
 exact aZ nB axd h (.z 2 [.slice none 4 0 0 true] <| .z 5 [.agg [.slice none 4 0 0 true]] <| .z 3 [.slice none 4 0 0 true] <| .st none <| .bd λx8 q8=>Lp [none,none,none,none] [Tw,Tw,Tw,Tw] [.slice none 4 0 0 true,.undef,.undef,.undef] (R7 (d+0) q8) <| .st none <| Fn Fo [.agg [.slice none 4 0 0 true]] none)
def nG (aQ:aC):Option (aS) :=
 (Gf aQ.Pairs).bind λ(x1:vN)=>(yL aQ.dN).bind λ(x2:qD)=>some (⟨x1,x2,aQ.dR,aQ.Epoch⟩:aS)
def Kq (aQ:aC) (r:aS):AV×WH:=((.ptr (some (0,0))),[(some (.cells (bT r) false false))])
theorem Gg (d:Nat) {aQ:aC} {r:aS} (h:nG aQ=some r):Spec (aF aH (d+4)) 81 [(.agg (bK aQ))] [] (Kq aQ r).1 (Kq aQ r).2:=by
 unfold nG at h
 exact aZ nB azf h (.bd λx1 q1=>Cl [] Fo [.slice none 2 0 0 true] (ae4 (d+0) q1) <| .er <| .ob (rfl:@Eq (Option AV) (some (dw aQ.dN)) (some (dw aQ.dN))) <| .bd λx2 q2=>Cl [] Fo [.slice none 4 0 0 true] (Yi (d+0) q2) <| Fn Fo [] none)
def lM (dV:aS) (client:Int) (s3:Int):List AV×WH:=([(.ptr (some (0,1))),(.int .i64 client),(.ptr (some (1,0))),(.int .i64 s3)],[(some (.cells (bT dV) false false)),(some (.cells (bS (⟨0,0,(⟨0,([]:List UInt8)⟩:aB)⟩:au)) false false))])
def qc (dV:aS) (client:Int):au⊕Unit→Ex×Fast×WH:=fun
 | .inl e=>(.ret,[(4,(.ptr (some (1,0)))),(5,(.bool true))],[(some (.cells (bT dV) false false)),(some (.cells (bS e) false false))])
 | .inr e=>((.exit 0),[(4,(.ptr (some (1,0))))],[(some (.cells (bT dV) false false)),(some (.cells (bS (⟨0,0,(⟨0,([]:List UInt8)⟩:aB)⟩:au)) false false))])
abbrev Jw (dV:aS) (client:Int):=dF [0,1,4,6] (lM dV client) (qc dV client)
def jR (dV:aS) (client:Int) (s3:Int):Option ((Int)⊕(au⊕Unit)) :=
 cond (decide (s3 < (dV.S_.L.length:Int))) ((bV dV.S_.L s3).bind λ(x4:au)=>cond (x4.Client==client) ((bV dV.S_.L s3).bind λ(x5:au)=>some (.inr (.inl x5))) (some (.inl (IntKind.i64.wrap (s3+1))))) (some (.inr (.inr ())))
def uM (dV:aS) (client:Int) (s3:Int):Option (au⊕Unit):=bQ (jR dV client) KK s3
theorem Kr (d:Nat) {dV:aS} {client:Int} {s3:Int} {r:(Int)⊕(au⊕Unit)} (h:jR dV client s3=some r):bN (aV (aF aH (d+0)) KK 34 Ud) 1 (jJ [0,1,4,6] (lM dV client s3)) (Jw dV client r):=by
 unfold jR at h
 exact bC nB aak h (.br 13 (λ_=>.bd λx4 q4=>Ix bW 21 q4 <| .br 25 (λ_=>.bd λx5 q5=>Ix bW 31 q5 <| .st none <| E0 [4,5]) λ_=>E0 [0,1,4,6]) λ_=>E0 [4])
theorem z_ (d:Nat) {dV:aS} {client:Int} {s3:Int} {r:au⊕Unit} (h:uM dV client s3=some r):bN (eY (aV (aF aH (d+0)) KK 34 Ud) [0,1,4,6] KK) 1 (jJ [0,1,4,6] (lM dV client s3)) (qc dV client r) :=
 cO (st:=lM dV client) (fin:=qc dV client) (step:=jR dV client) (λe=>by rcases e with e | e<;>(intro h;cases h)) (λs x h=>Kr d h) KK s3 r h
def kZ (client:Int) (dV:aS):Option (au×Bool) :=
 (uM dV client 0).bind λ(x6:au⊕Unit)=>cond (jO x6) (some ((zA x6),true)) (some ((⟨0,0,(⟨0,([]:List UInt8)⟩:aB)⟩:au),false))
def AY (client:Int) (dV:aS) (r:au×Bool):AV×WH:=((.tuple [(.agg (bS r.1)),(.bool r.2)]),[(some (.cells (bT dV) false false))])
theorem DU (d:Nat) {client:Int} {dV:aS} {r:au×Bool} (h:kZ client dV=some r):Spec (aF aH (d+1)) 113 [(.ptr (some (0,1))),(.int .i64 client)] [(some (.cells (bT dV) false false))] (AY client dV r).1 (AY client dV r).2:=by
 unfold kZ at h
 exact aZ nB au2 h (.bd λx6 q6=>.ite (λEu=>Lp [none,none,none,none] [] [] (j6 (il Eu) (z_ (d+0) q6)) <| Fn Fo [] none) λEu=>Lp [none,none,none,none] [] [] (j6 (Ai Eu) (z_ (d+0) q6)) <| .st none <| Fn Fo [] none)
def pE (t:aS) (key:List UInt8) (s3:Int):List AV×WH:=([(.ptr (some (0,0))),(.str key),(.int .i64 s3)],[(some (.cells (bT t) false false))])
def sZ (t:aS) (key:List UInt8):(Int×Bool)⊕Unit→Ex×Fast×WH:=fun
 | .inl e=>(.ret,[(4,(.int .i64 e.1)),(5,(.bool e.2))],[(some (.cells (bT t) false false))])
 | .inr e=>((.exit 0),[(0,(.ptr (some (0,0))))],[(some (.cells (bT t) false false))])
abbrev Nq (t:aS) (key:List UInt8):=dF [0,1,6] (pE t key) (sZ t key)
def qF (t:aS) (key:List UInt8) (s3:Int):Option ((Int)⊕((Int×Bool)⊕Unit)) :=
 cond (decide (s3 < (t.T.L.length:Int))) ((bV t.T.L s3).bind λ(x4:av)=>cond (!(Op.bytesLess x4.Key key)) ((bV t.T.L s3).bind λ(x5:av)=>some (.inr (.inl (s3,(x5.Key==key))))) (some (.inl (IntKind.i64.wrap (s3+1))))) (some (.inr (.inr ())))
def Gh (t:aS) (key:List UInt8) (s3:Int):Option ((Int×Bool)⊕Unit):=bQ (qF t key) KK s3
theorem OB (d:Nat) {t:aS} {key:List UInt8} {s3:Int} {r:(Int)⊕((Int×Bool)⊕Unit)} (h:qF t key s3=some r):bN (aV (aF aH (d+0)) KK 42 Ug) 1 (jJ [0,1,6] (pE t key s3)) (Nq t key r):=by
 unfold qF at h
 exact bC nB aao h (.br 13 (λ_=>.bd λx4 q4=>Ix aO 21 q4 <| .br 25 (λ_=>.bd λx5 q5=>Ix aO 32 q5 <| E0 [4,5]) λ_=>E0 [0,1,6]) λ_=>E0 [0])
theorem DV (d:Nat) {t:aS} {key:List UInt8} {s3:Int} {r:(Int×Bool)⊕Unit} (h:Gh t key s3=some r):bN (eY (aV (aF aH (d+0)) KK 42 Ug) [0,1,6] KK) 1 (jJ [0,1,6] (pE t key s3)) (sZ t key r) :=
 cO (st:=pE t key) (fin:=sZ t key) (step:=qF t key) (λe=>by rcases e with e | e<;>(intro h;cases h)) (λs x h=>OB d h) KK s3 r h
def y8 (key:List UInt8) (t:aS):Option (Int×Bool) :=
 (Gh t key 0).bind λ(x6:(Int×Bool)⊕Unit)=>cond (jO x6) (some ((zA x6).1,(zA x6).2)) (some ((t.T.L.length:Int),false))
def ES (key:List UInt8) (t:aS) (r:Int×Bool):AV×WH:=((.tuple [(.int .i64 r.1),(.bool r.2)]),[(some (.cells (bT t) false false))])
theorem Uo (d:Nat) {key:List UInt8} {t:aS} {r:Int×Bool} (h:y8 key t=some r):Spec (aF aH (d+1)) 134 [(.ptr (some (0,0))),(.str key)] [(some (.cells (bT t) false false))] (ES key t r).1 (ES key t r).2:=by
 unfold y8 at h
 exact aZ nB au5 h (.bd λx6 q6=>.ite (λEu=>Lp [none,none,none] [] [] (j6 (il Eu) (DV (d+0) q6)) <| Fn Fo [] none) λEu=>Lp [none,none,none] [] [] (j6 (Ai Eu) (DV (d+0) q6)) <| Fn Fo [] none)
abbrev Qy (x2:Int×Bool) (t:aS) (o:bE):Fast×WH:=([(0,(.ptr (some (0,0)))),(3,(.ptr (some (1,0)))),(4,(.ptr (some (2,0)))),(5,(.int .i64 x2.1)),(6,(.bool x2.2))],[(some (.cells (bT t) false false)),(some (.cells (gF o) false false)),(some (.cells (dZ (⟨0,([]:List UInt8)⟩:aB)) false false))])
def OC (x2:Int×Bool) (t:aS) (o:bE):Unit⊕Unit→Ex×Fast×WH:=fun
 | .inl e=>(.ret,[(4,(.ptr (some (1,0))))],[(some (.cells (bT t) false false)),(some (.cells (dZ (⟨5,([]:List UInt8)⟩:aB)) false false))])
 | .inr e=>(.normal,[(0,(.ptr (some (0,0)))),(3,(.ptr (some (1,0)))),(4,(.ptr (some (2,0)))),(5,(.int .i64 x2.1)),(6,(.bool x2.2))],[(some (.cells (bT t) false false)),(some (.cells (gF o) false false)),(some (.cells (dZ (⟨0,([]:List UInt8)⟩:aB)) false false))])
def w_ (x2:Int×Bool) (t:aS) (o:bE):Option (Unit⊕Unit) :=
 cond (!x2.2) (cond (decide ((t.T.L.length:Int)≥8)) (some (.inl ())) (some (.inr ()))) (some (.inr ()))
theorem Gi (d:Nat) {x2:Int×Bool} {t:aS} {o:bE} {r:Unit⊕Unit} (h:w_ x2 t o=some r):bN (aV (aF aH (d+0)) KK 147 AB) 1 (Qy x2 t o) (OC x2 t o r):=by
 unfold w_ at h
 exact bC nB DN h (.br 40 (λ_=>.br 47 (λ_=>.st none <| E0 [4]) λ_=>E0 [0,3,4,5,6]) λ_=>E0 [0,3,4,5,6])
abbrev Qz (x2:Int×Bool) (x6:List av) (o:bE) (t:aS):Fast×WH:=([(0,(.ptr (some (0,0)))),(4,(.ptr (some (1,0)))),(5,(.int .i64 x2.1)),(6,(.bool x2.2)),(7,(.acc 2 0 2 (x6++[(⟨o.Key,o.Value⟩:av)]).length true))],[(some (.cells (bT t) false false)),(some (.cells (dZ (⟨0,([]:List UInt8)⟩:aB)) false false)),(some (.cells (aD (x6++[(⟨o.Key,o.Value⟩:av)])) false true))])
def OD (x2:Int×Bool) (x6:List av) (o:bE) (t:aS):Int→Ex×Fast×WH:=λe=>(.normal,[(0,(.ptr (some (0,0)))),(4,(.ptr (some (1,0)))),(5,(.int .i64 e)),(7,(.acc 2 0 2 (x6++[(⟨o.Key,o.Value⟩:av)]).length true))],[(some (.cells (bT t) false false)),(some (.cells (dZ (⟨0,([]:List UInt8)⟩:aB)) false false)),(some (.cells (aD (x6++[(⟨o.Key,o.Value⟩:av)])) false true))])
def xg (x2:Int×Bool) (x6:List av) (o:bE) (t:aS):Option (Int) :=
 cond x2.2 (some (IntKind.i64.wrap (x2.1+1))) (some x2.1)
theorem R8 (d:Nat) {x2:Int×Bool} {x6:List av} {o:bE} {t:aS} {r:Int} (h:xg x2 x6 o t=some r):bN (aV (aF aH (d+0)) KK 147 vP) 1 (Qz x2 x6 o t) (OD x2 x6 o t r):=by
 unfold xg at h
 exact bC nB zW h (.br 65 (λ_=>E1 [0,4,5,7] [none,none,none,none] [] [.undef,.undef,.undef,.slice none 2 0 0 true]) λ_=>E1 [0,4,5,7] [none,none,none,none] [] [.undef,.undef,.undef,.slice none 2 0 0 true])
def yM (o:bE) (t:aS):Option (aB×aS) :=
 (zC o).bind λ(x1:Bool)=>cond (!x1) (some ((⟨1,([]:List UInt8)⟩:aB),t)) ((y8 o.Key t).bind λ(x2:Int×Bool)=>cond (o.Kind==1) (cond (!x2.2) (some ((⟨4,([]:List UInt8)⟩:aB),t)) ((bV t.T.L x2.1).bind λ(x3:av)=>some ((⟨0,x3.Value⟩:aB),t))) (cond (o.Kind==2) ((w_ x2 t o).bind λ(x4:Unit⊕Unit)=>cond (jO x4) (some ((⟨5,([]:List UInt8)⟩:aB),t)) ((MF t.T.L 0 x2.1).bind λ(x6:List av)=>gd (dx 32 x6.length) (gd (dx 32 (x6++[(⟨o.Key,o.Value⟩:av)]).length) ((xg x2 x6 o t).bind λ(x9:Int)=>(MF t.T.L x9 t.T.L.length).bind λ(x10:List av)=>gd (dx 32 ((x6++[(⟨o.Key,o.Value⟩:av)])++x10).length) (some ((⟨0,([]:List UInt8)⟩:aB),(⟨(⟨((x6++[(⟨o.Key,o.Value⟩:av)])++x10)⟩:vN),t.S_,t.ID,t.Epoch⟩:aS))))))) (cond (o.Kind==3) (cond (!x2.2) (some ((⟨4,([]:List UInt8)⟩:aB),t)) ((MF t.T.L 0 x2.1).bind λ(dD:List av)=>gd (dx 32 dD.length) ((MF t.T.L (IntKind.i64.wrap (x2.1+1)) t.T.L.length).bind λ(m_:List av)=>gd (dx 32 (dD++m_).length) (some ((⟨0,([]:List UInt8)⟩:aB),(⟨(⟨(dD++m_)⟩:vN),t.S_,t.ID,t.Epoch⟩:aS)))))) (cond (!x2.2) (some ((⟨4,([]:List UInt8)⟩:aB),t)) ((bV t.T.L x2.1).bind λ(mE:av)=>cond (!(mE.Value==o.Old)) ((bV t.T.L x2.1).bind λ(jP:av)=>some ((⟨6,jP.Value⟩:aB),t)) (gd (dx 32 t.T.L.length) ((bV t.T.L x2.1).bind λ(mh:av)=>some ((⟨0,([]:List UInt8)⟩:aB),(⟨(⟨(t.T.L.set x2.1.toNat (⟨mh.Key,o.Value⟩:av))⟩:vN),t.S_,t.ID,t.Epoch⟩:aS)))))))))
def mG (o:bE) (t:aS) (r:aB×aS):AV×WH:=((.agg (dZ r.1)),[(some (.cells (bT r.2) false false))])
theorem Yj (d:Nat) {o:bE} {t:aS} {r:aB×aS} (h:yM o t=some r):Spec (aF aH (d+2)) 114 [(.ptr (some (0,0))),(.agg (gF o))] [(some (.cells (bT t) false false))] (mG o t r).1 (mG o t r).2:=by
 unfold yM at h
 exact aZ nB au3 h (.bd λx1 q1=>iN (LP (d+0) q1) <| .br 11 (λ_=>.st none <| Fn Fo [] Fo) λ_=>.bd λx2 q2=>Cl [] Fo [] (Uo (d+0) q2) <| .br 22 (λ_=>.br 25 (λ_=>.st none <| Fn Fo [] Fo) λ_=>.bd λx3 q3=>Ix aO 32 q3 <| .st none <| Fn Fo [] Fo) λ_=>.br 36 (λ_=>.bd λx4 q4=>.ite (λhb5=>Jn [0,3,4,5,6] [none,none,none,none,none] [] [] (j6 (il hb5) (Gi (d+1) q4)) <| Fn Fo [] Fo) λhb5=>Jn [0,3,4,5,6] [none,none,none,none,none] [] [] (j6 (Ai hb5) (Gi (d+1) q4)) <| .bd λx6 q6=>Si aO 55 q6 <| .gd λq7=>Ap0 aO 56 q7 <| .gd λq8=>Ap aO 64 q8 <| .bd λx9 q9=>Jn [0,4,5,6,7] [none,none,none,none,none] [] [.undef,.undef,.undef,.undef,.slice none 2 0 0 true] (R8 (d+1) q9) <| .bd λx10 J_=>Sl aO 75 J_ <| .gd λHz=>Ap aO 76 Hz <| .st none <| .st none <| Fn Fo [] Fo) λ_=>.br 80 (λ_=>.br 83 (λ_=>.st none <| Fn Fo [] Fo) λ_=>.bd λdD LK=>Si aO 92 LK <| .gd λYf=>Ap0 aO 93 Yf <| .er <| .ob (rfl:@Eq (Option AV) (some (bL t.T.L)) (some (bL t.T.L))) <| .bd λm_ ND=>Sl aO 100 ND <| .gd λML=>Ap aO 101 ML <| .st none <| .st none <| Fn Fo [] Fo) λ_=>.br 105 (λ_=>.st none <| Fn Fo [] Fo) λ_=>.bd λmE q16=>Ix aO 115 q16 <| .br 109 (λ_=>.bd λjP Jm=>Ix aO 126 Jm <| .st none <| Fn Fo [] Fo) λ_=>.gd λV_=>Ap0 aO 135 V_ <| .bd λmh Qw=>Ia aO 140 4 Qw <| .st (some (aD (t.T.L.set x2.1.toNat (⟨mh.Key,o.Value⟩:av)))) <| .ob (F8 (o:=1) aO Qw rfl:Xv (aD t.T.L) (0+x2.1.toNat * 2+1) [(.str o.Value)]=some (aD (t.T.L.set x2.1.toNat (⟨mh.Key,o.Value⟩:av)))) <| .st none <| .st none <| .xQ (.fin (some false) [] (some false)) _ (λr=>@Eq AV (.agg (dZ (⟨0,([]:List UInt8)⟩:aB))) (mG o t r).1∧@Eq WH [(some (.cells [(.list 2 t.T.L.length (aD (t.T.L.set x2.1.toNat (⟨mh.Key,o.Value⟩:av))) false),(dw t.S_.L),(.int .i64 t.ID),(.int .i64 t.Epoch)] false false))] (mG o t r).2) (by show _∧_;(try rw [show AV.list 2 t.T.L.length (aD (t.T.L.set x2.1.toNat (⟨mh.Key,o.Value⟩:av))) false=bL (t.T.L.set x2.1.toNat (⟨mh.Key,o.Value⟩:av)) from by simp only [bL,List.length_set]]);refine ⟨?_, ?_⟩<;>first | rfl | (simp only [mG,List.length_set,List.length_append,List.length_replicate,List.length_cons,List.length_nil,List.length_take,List.length_drop,Nat.add_zero,Nat.zero_add];done) | simp [mG]))
end Go.Proofs.YtohoggieaanllaaGreat
