import Derived.Test.YtohoggieaanllaaGreatXt
import Derived.Test.YtohoggieaanllaaGreatXs
set_option linter.all false
set_option maxRecDepth 100000
namespace Go.Proofs.YtohoggieaanllaaGreat
def bE (n:Int) (m:Int):Option (Int) :=
 (arp .i64 n m).bind λ(x1:Int)=>cond (decide (x1 < 0)) (some (IntKind.i64.wrap (x1+m))) (some x1)
def WT (n:Int) (m:Int) (r:Int):AV×WH:=((.int .i64 r),[])
theorem bF (d:Nat) {n:Int} {m:Int} {r:Int} (h:bE n m=some r):Spec (aB aH (d+1)) 16 [(.int .i64 n),(.int .i64 m)] [] (WT n m r).1 (WT n m r).2:=by
 unfold bE at h
 exact aX nB ax1 h (.bd λx1 q1=>.v 7 (.int .i64 x1) <| .ob (avA q1:Jr .rem .i64 n m=some (.int .i64 x1)) <| .br 9 (λ_=>Fn Fo [] none) λ_=>Fn Fo [] none)
def xV (n:Int):Option (List UInt8) :=
 (bE n 6).bind λ(x1:Int)=>(bO ([([]:List UInt8),[49],[50],[116,104,114,101,101],[115,105,120,116,101,101,110,32,98,121,116,101,115,32,105,116],[52]]:List (List UInt8)) x1).bind λ(x2:List UInt8)=>some x2
def TD (n:Int) (r:List UInt8):AV×WH:=((.str r),[])
theorem KY (d:Nat) {n:Int} {r:List UInt8} (h:xV n=some r):Spec (aB aH (d+2)) 32 [(.int .i64 n)] [] (TD n r).1 (TD n r).2:=by
 unfold xV at h
 exact aX nB ax9 h (.bd λx1 q1=>iA (bF (d+0) q1) <| .bd λx2 q2=>.v 6 (.str x2) <| .ob (am6 R_S q2:wP (.index false 6 1 (.c (.agg [(.str ([]:List UInt8)),(.str [49]),(.str [50]),(.str ([116,104,114,101,101])),(.str ([115,105,120,116,101,101,110,32,98,121,116,101,115,32,105,116])),(.str [52])])) (.c (.int .i64 x1)))=some (.str x2)) <| Fn Fo [] none)
abbrev aen (x1:Int) (n:Int):Fast×WH:=([(0,(.int .i64 n)),(4,(.int .i64 x1))],[])
def abl (x1:Int) (n:Int):Bool→Ex×Fast×WH:=λe=>(.normal,[(0,(.int .i64 n)),(4,(.int .i64 x1)),(5,(.bool e))],[])
def JJ (x1:Int) (n:Int):Option (Bool) :=
 cond (x1==0) (some true) (cond (x1==1) (some true) (some (x1==2)))
theorem agN (d:Nat) {x1:Int} {n:Int} {r:Bool} (h:JJ x1 n=some r):bJ (aU (aB aH (d+0)) KK 35 Zp) 0 (aen x1 n) (abl x1 n r):=by
 unfold JJ at h
 exact bA nB abg h (.br 5 (λ_=>E0 [0,4,5]) λ_=>.br 5 (λ_=>E0 [0,4,5]) λ_=>E0 [0,4,5])
def Ad (n:Int):Option (Int) :=
 (bE n 7).bind λ(x1:Int)=>(JJ x1 n).bind λ(x2:Bool)=>cond x2 ((bE (IntKind.i64.wrap (Int.tdiv n 7)) 40).bind λ(x3:Int)=>some x3) (cond (x1==3) ((bE (IntKind.i64.wrap (Int.tdiv n 7)) 63).bind λ(x4:Int)=>(akX .i64 1 (IntKind.u64.wrap x4)).bind λ(x5:Int)=>(bE (IntKind.i64.wrap (Int.tdiv n 441)) 3).bind λ(x6:Int)=>some (IntKind.i64.wrap (x5 - x6))) (cond (x1==4) ((bE (IntKind.i64.wrap (Int.tdiv n 7)) 3).bind λ(x7:Int)=>some (IntKind.i64.wrap (4611686018427387903 - x7))) (cond (x1==5) ((bE (IntKind.i64.wrap (Int.tdiv n 7)) 1000).bind λ(x8:Int)=>some x8) (some n))))
def ZG (n:Int) (r:Int):AV×WH:=((.int .i64 r),[])
theorem xW (d:Nat) {n:Int} {r:Int} (h:Ad n=some r):Spec (aB aH (d+2)) 37 [(.int .i64 n)] [] (ZG n r).1 (ZG n r).2:=by
 unfold Ad at h
 exact aX nB ayc h (.bd λx1 q1=>iA (bF (d+0) q1) <| .bd λx2 q2=>Jn [0,4] [none,none] [] [] (agN (d+1) q2) <| .br 5 (λ_=>.bd λx3 q3=>iA (bF (d+0) q3) <| Fn Fo [] none) λ_=>.br 12 (λ_=>.bd λx4 q4=>iA (bF (d+0) q4) <| .bd λx5 q5=>.v 18 (.int .i64 x5) <| .ob (am9 q5:UL .shl (.int .i64 1) (.int .u64 (IntKind.u64.wrap x4))=some (.int .i64 x5)) <| .bd λx6 q6=>iA (bF (d+0) q6) <| Fn Fo [] none) λ_=>.br 23 (λ_=>.bd λx7 q7=>iA (bF (d+0) q7) <| Fn Fo [] none) λ_=>.br 29 (λ_=>.bd λx8 q8=>iA (bF (d+0) q8) <| Fn Fo [] none) λ_=>Fn Fo [] none)
def ZH (n:Int):Option (Int) :=
 (Ad n).bind λ(x1:Int)=>some (if (if (4611686018427387903:Int) < x1 then 4611686018427387903 else x1) > 0 then (if (4611686018427387903:Int) < x1 then 4611686018427387903 else x1) else 0)
def ZI (n:Int) (r:Int):AV×WH:=((.int .i64 r),[])
theorem aqe (d:Nat) {n:Int} {r:Int} (h:ZH n=some r):Spec (aB aH (d+3)) 109 [(.int .i64 n)] [] (ZI n r).1 (ZI n r).2:=by
 unfold ZH at h
 exact aX nB awS h (.bd λx1 q1=>iA (xW (d+0) q1) <| Fn Fo [] none)
def JK (aS:bK):Option (av) :=
 (bE aS.Inc 4).bind λ(x1:Int)=>(bE aS.Status 3).bind λ(x2:Int)=>(bE aS.ql 5).bind λ(x3:Int)=>(bE aS.Load 12).bind λ(x4:Int)=>(bE aS.Inc 19).bind λ(x5:Int)=>cond (x5==18) ((ZH aS.ql).bind λ(x6:Int)=>some (⟨x1,x2,x6,x4,aS.dR⟩:av)) (some (⟨x1,x2,x3,x4,aS.dR⟩:av))
def TF (aS:bK) (r:av):AV×WH:=((.agg (zA r)),[])
theorem ZJ (d:Nat) {aS:bK} {r:av} (h:JK aS=some r):Spec (aB aH (d+4)) 76 [(.agg (xU aS))] [] (TF aS r).1 (TF aS r).2:=by
 unfold JK at h
 exact aX nB ayI h (.bd λx1 q1=>iA (bF (d+2) q1) <| .bd λx2 q2=>iA (bF (d+2) q2) <| .bd λx3 q3=>iA (bF (d+2) q3) <| .bd λx4 q4=>iA (bF (d+2) q4) <| .st none <| .bd λx5 q5=>iA (bF (d+2) q5) <| .br 22 (λ_=>.bd λx6 q6=>iA (aqe (d+0) q6) <| .st none <| .st none <| Fn Fo [] none) λ_=>.st none <| Fn Fo [] none)
abbrev ZK (s11:Int×List av) (l:List bK) (n:Int):Fast×WH:=([(0,(bg l)),(1,(.int .i64 n)),(5,(.acc 0 0 5 s11.2.length true)),(6,(.int .i64 s11.1))],[(some (.cells (bH s11.2) false true))])
def Xy (s11:Int×List av) (l:List bK) (n:Int):Unit⊕Unit→Ex×Fast×WH:=fun
 | .inl e=>(.normal,[(0,(bg l)),(1,(.int .i64 n)),(5,(.acc 0 0 5 s11.2.length true)),(6,(.int .i64 s11.1))],[(some (.cells (bH s11.2) false true))])
 | .inr e=>((.exit 0),[(5,(.acc 0 0 5 s11.2.length true))],[(some (.cells (bH s11.2) false true))])
def HV (s11:Int×List av) (l:List bK) (n:Int):Option (Unit⊕Unit) :=
 cond (decide (s11.1 < (l.length:Int))) (cond (decide (s11.1 < n)) (some (.inl ())) (some (.inr ()))) (some (.inr ()))
theorem QD (d:Nat) {s11:Int×List av} {l:List bK} {n:Int} {r:Unit⊕Unit} (h:HV s11 l n=some r):bJ (aU (aB aH (d+0)) KK 27 KW) 0 (ZK s11 l n) (Xy s11 l n r):=by
 unfold HV at h
 exact bA nB LU h (.br 11 (λ_=>.br 15 (λ_=>E1 [0,1,5,6] [none,none,none,none] [] [.slice none 5 0 0 true,.undef,.slice none 5 0 0 true,.undef]) λ_=>E1 [5] [none] [] [.slice none 5 0 0 true]) λ_=>E1 [5] [none] [] [.slice none 5 0 0 true])
def Ae (l:List bK) (n:Int) (s11:Int×List av):List AV×WH:=([(bg l),(.int .i64 n),(.acc 0 0 5 s11.2.length true),(.int .i64 s11.1)],[(some (.cells (bH s11.2) false true))])
def DV (l:List bK) (n:Int):(List av)→Ex×Fast×WH:=λe=>((.exit 0),[(5,(.acc 0 0 5 e.length true))],[(some (.cells (bH e) false true))])
abbrev ZL (l:List bK) (n:Int):=dx [0,1,5,6] (Ae l n) (DV l n)
def xX (l:List bK) (n:Int) (s11:Int×List av):Option ((Int×List av)⊕((List av))) :=
 (HV s11 l n).bind λ(cu:Unit⊕Unit)=>cond (jI cu) ((bO l s11.1).bind λ(lH:bK)=>(JK lH).bind λ(bR:av)=>gd (dh 40 (s11.2++[bR]).length) (some (.inl ((IntKind.i64.wrap (s11.1+1)),(s11.2++[bR]))))) (some (.inr s11.2))
def NI (l:List bK) (n:Int) (s11:Int×List av):Option ((List av)):=bT (xX l n) KK s11
theorem abm (d:Nat) {l:List bK} {n:Int} {s11:Int×List av} {r:(Int×List av)⊕((List av))} (h:xX l n s11=some r):bJ (aU (aB aH (d+4)) KK 27 Zn) 0 (jg [0,1,5,6] (Ae l n s11)) (ZL l n r):=by
 unfold xX at h
 exact bA nB acI h (.bd λcu KZ=>.ite (λRq=>Jn [0,1,5,6] [none,none,none,none] [] [.slice none 5 0 0 true,.undef,.slice none 5 0 0 true,.undef] (jA (il Rq) (QD (d+4) KZ)) <| .bd λlH LW=>Ix IJ 21 LW <| .bd λbR KC=>iA (ZJ (d+0) KC) <| .gd λq16=>Ap mJ 25 q16 <| E1 [0,1,5,6] [none,none,none,none] [] [.slice none 5 0 0 true,.undef,.slice none 5 0 0 true,.undef]) λRq=>Jn [0,1,5,6] [none,none,none,none] [] [.slice none 5 0 0 true,.undef,.slice none 5 0 0 true,.undef] (jA (zy Rq) (QD (d+4) KZ)) <| E1 [5] [none] [] [.slice none 5 0 0 true])
theorem abn (d:Nat) {l:List bK} {n:Int} {s11:Int×List av} {r:(List av)} (h:NI l n s11=some r):bJ (eu (aU (aB aH (d+4)) KK 27 Zn) [0,1,5,6] KK) 0 (jg [0,1,5,6] (Ae l n s11)) (DV l n r) :=
 bY (st:=Ae l n) (fin:=DV l n) (step:=xX l n) (λe=>by (intro h;cases h)) (λs x h=>abm d h) KK s11 r h
def NJ (l:List bK) (n:Int):Option (List av) :=
 (NI l n (0,[])).bind λ(iU:(List av))=>some iU
def TG (l:List bK) (n:Int) (r:List av):AV×WH:=((dW r),[])
theorem aja (d:Nat) {l:List bK} {n:Int} {r:List av} (h:NJ l n=some r):Spec (aB aH (d+5)) 33 [(bg l),(.int .i64 n)] [] (TG l n r).1 (TG l n r).2:=by
 unfold NJ at h
 exact aX nB awG h (.z 4 [.slice none 5 0 0 true] <| .z 5 [.slice none 5 0 0 true] <| .bd λiU GH=>Lp [none,none,Tw,none] [] [.slice none 5 0 0 true,.undef,.slice none 5 0 0 true,.undef] (abn (d+0) GH) <| Fn Fo [.slice none 5 0 0 true] none)
def K3 (n:Int):Option (List UInt8) :=
 (bE n 16).bind λ(x1:Int)=>(bO ([[97],[98],[99],[100],[101],[102],[103],[104],[107,97],[107,98],[107,99],[107,100],[120],[121],[122,122],[101,105,103,104,116,107,101,121]]:List (List UInt8)) x1).bind λ(x2:List UInt8)=>some x2
def ZM (n:Int) (r:List UInt8):AV×WH:=((.str r),[])
theorem ZN (d:Nat) {n:Int} {r:List UInt8} (h:K3 n=some r):Spec (aB aH (d+2)) 84 [(.int .i64 n)] [] (ZM n r).1 (ZM n r).2:=by
 unfold K3 at h
 exact aX nB ayP h (.bd λx1 q1=>iA (bF (d+0) q1) <| .bd λx2 q2=>.v 6 (.str x2) <| .ob (am6 R_S q2:wP (.index false 16 1 (.c (.agg [(.str [97]),(.str [98]),(.str [99]),(.str [100]),(.str [101]),(.str [102]),(.str [103]),(.str [104]),(.str ([107,97])),(.str ([107,98])),(.str ([107,99])),(.str ([107,100])),(.str [120]),(.str [121]),(.str ([122,122])),(.str ([101,105,103,104,116,107,101,121]))])) (.c (.int .i64 x1)))=some (.str x2)) <| Fn Fo [] none)
abbrev agO (x1:Int) (value:Int) (old:Int) (x2:List UInt8):Fast×WH:=([(2,(.int .i64 value)),(3,(.int .i64 old)),(8,(.ptr (some (0,0)))),(9,(.ptr (some (1,0))))],[(some (.cells (fQ (⟨0,([]:List UInt8),([]:List UInt8),([]:List UInt8)⟩:bD)) false false)),(some (.cells (fQ (⟨(IntKind.i64.wrap (1+x1)),x2,([]:List UInt8),([]:List UInt8)⟩:bD)) false false))])
def aeo (x1:Int) (value:Int) (old:Int) (x2:List UInt8):Bool→Ex×Fast×WH:=λe=>(.normal,[(2,(.int .i64 value)),(3,(.int .i64 old)),(8,(.ptr (some (0,0)))),(9,(.ptr (some (1,0)))),(23,(.bool e))],[(some (.cells (fQ (⟨0,([]:List UInt8),([]:List UInt8),([]:List UInt8)⟩:bD)) false false)),(some (.cells (fQ (⟨(IntKind.i64.wrap (1+x1)),x2,([]:List UInt8),([]:List UInt8)⟩:bD)) false false))])
def NK (x1:Int) (value:Int) (old:Int) (x2:List UInt8):Option (Bool) :=
 cond ((IntKind.i64.wrap (1+x1))==2) (some true) (some ((IntKind.i64.wrap (1+x1))==4))
theorem ajb (d:Nat) {x1:Int} {value:Int} {old:Int} {x2:List UInt8} {r:Bool} (h:NK x1 value old x2=some r):bJ (aU (aB aH (d+0)) KK 34 acO) 0 (agO x1 value old x2) (aeo x1 value old x2 r):=by
 unfold NK at h
 exact bA nB ad4 h (.br 19 (λ_=>E0 [2,3,8,9,23]) λ_=>E0 [2,3,8,9,23])
abbrev agP (x1:Int) (value:Int) (old:Int) (x2:List UInt8):Fast×WH:=([(2,(.int .i64 value)),(3,(.int .i64 old)),(8,(.ptr (some (0,0)))),(9,(.ptr (some (1,0))))],[(some (.cells (fQ (⟨0,([]:List UInt8),([]:List UInt8),([]:List UInt8)⟩:bD)) false false)),(some (.cells (fQ (⟨(IntKind.i64.wrap (1+x1)),x2,([]:List UInt8),([]:List UInt8)⟩:bD)) false false))])
def aep (x1:Int) (value:Int) (old:Int) (x2:List UInt8):bD→Ex×Fast×WH:=λe=>(.normal,[(3,(.int .i64 old)),(8,(.ptr (some (0,0)))),(9,(.ptr (some (1,0))))],[(some (.cells (fQ (⟨0,([]:List UInt8),([]:List UInt8),([]:List UInt8)⟩:bD)) false false)),(some (.cells (fQ e) false false))])
def NM (x1:Int) (value:Int) (old:Int) (x2:List UInt8):Option (bD) :=
 (NK x1 value old x2).bind λ(x3:Bool)=>cond x3 ((xV value).bind λ(x4:List UInt8)=>some (⟨(IntKind.i64.wrap (1+x1)),x2,x4,([]:List UInt8)⟩:bD)) (some (⟨(IntKind.i64.wrap (1+x1)),x2,([]:List UInt8),([]:List UInt8)⟩:bD))
theorem ajc (d:Nat) {x1:Int} {value:Int} {old:Int} {x2:List UInt8} {r:bD} (h:NM x1 value old x2=some r):bJ (aU (aB aH (d+2)) KK 34 af2) 0 (agP x1 value old x2) (aep x1 value old x2 r):=by
 unfold NM at h
 exact bA nB af3 h (.bd λx3 q3=>Jn [2,3,8,9] [none,none,none,none] [] [] (ajb (d+2) q3) <| .br 23 (λ_=>.bd λx4 q4=>iA (KY (d+0) q4) <| .st none <| E0 [3,8,9]) λ_=>E0 [3,8,9])
def ZO (kind:Int) (key:Int) (value:Int) (old:Int):Option (bD) :=
 (bE kind 4).bind λ(x1:Int)=>(K3 key).bind λ(x2:List UInt8)=>(NM x1 value old x2).bind λ(x5:bD)=>cond (x5.Kind==4) ((xV old).bind λ(x6:List UInt8)=>some (⟨x5.Kind,x5.Key,x5.Value,x6⟩:bD)) (some x5)
def ac7 (kind:Int) (key:Int) (value:Int) (old:Int) (r:bD):AV×WH:=((.agg (fQ r)),[])
theorem auv (d:Nat) {kind:Int} {key:Int} {value:Int} {old:Int} {r:bD} (h:ZO kind key value old=some r):Spec (aB aH (d+3)) 77 [(.int .i64 kind),(.int .i64 key),(.int .i64 value),(.int .i64 old)] [] (ac7 kind key value old r).1 (ac7 kind key value old r).2:=by
 unfold ZO at h
 exact aX nB ayJ h (.bd λx1 q1=>iA (bF (d+1) q1) <| .bd λx2 q2=>iA (ZN (d+0) q2) <| .st none <| .bd λx5 q5=>Jn [2,3,8,9] [none,none,none,none] [] [] (ajc (d+0) q5) <| .br 29 (λ_=>.bd λx6 q6=>iA (KY (d+0) q6) <| .st none <| .st none <| Fn Fo [] none) λ_=>.st none <| Fn Fo [] none)
def HY (dL:List UInt8) (n:Int):Option (List UInt8) :=
 cond (decide ((dL.length:Int) > n)) ((LQ dL 0 n).bind λ(x1:List UInt8)=>some x1) (some dL)
def WU (dL:List UInt8) (n:Int) (r:List UInt8):AV×WH:=((.str r),[])
theorem ac8 (d:Nat) {dL:List UInt8} {n:Int} {r:List UInt8} (h:HY dL n=some r):Spec (aB aH (d+1)) 78 [(.str dL),(.int .i64 n)] [] (WU dL n r).1 (WU dL n r).2:=by
 unfold HY at h
 exact aX nB ayK h (.br 8 (λ_=>.bd λx1 q1=>.v 11 (.str x1) <| .ob (am5 q1:wP (.oJ (.c (.str dL)) none (some (.c (.int .i64 n))))=some (.str x1)) <| Fn Fo [] none) λ_=>Fn Fo [] none)
def IU (aS:dB):Option (bn) :=
 (bE aS.Client 4).bind λ(x1:Int)=>(bE aS.Seq 9).bind λ(x2:Int)=>(ZO aS.Kind aS.Key aS.Value aS.Old).bind λ(x3:bD)=>(bE aS.sH 16).bind λ(x4:Int)=>cond (x4==10) ((HY aS.Text 12).bind λ(x5:List UInt8)=>some (⟨x1,(IntKind.i64.wrap (1+x2)),(⟨x3.Kind,x5,x3.Value,x3.Old⟩:bD)⟩:bn)) (cond (x4==11) ((HY aS.Text 20).bind λ(x6:List UInt8)=>some (⟨x1,(IntKind.i64.wrap (1+x2)),(⟨x3.Kind,x3.Key,x6,x3.Old⟩:bD)⟩:bn)) (cond (x4==12) ((bE (IntKind.i64.wrap (Int.tdiv aS.sH 16)) 8).bind λ(x7:Int)=>some (⟨x1,(IntKind.i64.wrap (1+x2)),(⟨(IntKind.i64.wrap (x7 - 1)),x3.Key,x3.Value,x3.Old⟩:bD)⟩:bn)) (cond (x4==13) ((bE (IntKind.i64.wrap (Int.tdiv aS.sH 16)) 9).bind λ(x8:Int)=>some (⟨(IntKind.i64.wrap (x8 - 2)),(IntKind.i64.wrap (1+x2)),x3⟩:bn)) (cond (x4==14) ((Ad (IntKind.i64.wrap (Int.tdiv aS.sH 16))).bind λ(x9:Int)=>some (⟨x1,x9,x3⟩:bn)) (cond (x4==15) (some (⟨0,0,(⟨0,([]:List UInt8),([]:List UInt8),([]:List UInt8)⟩:bD)⟩:bn)) (some (⟨x1,(IntKind.i64.wrap (1+x2)),x3⟩:bn)))))))
def ZP (aS:dB) (r:bn):AV×WH:=((.agg (sO r)),[])
theorem TH (d:Nat) {aS:dB} {r:bn} (h:IU aS=some r):Spec (aB aH (d+4)) 34 [(.agg (Fz aS))] [] (ZP aS r).1 (ZP aS r).2:=by
 unfold IU at h
 exact aX nB aya h (.bd λx1 q1=>iA (bF (d+2) q1) <| .bd λx2 q2=>iA (bF (d+2) q2) <| .bd λx3 q3=>iA (auv (d+0) q3) <| .st none <| .bd λx4 q4=>iA (bF (d+2) q4) <| .br 24 (λ_=>.bd λx5 q5=>iA (ac8 (d+2) q5) <| .st none <| .st none <| Fn Fo [] none) λ_=>.br 31 (λ_=>.bd λx6 q6=>iA (ac8 (d+2) q6) <| .st none <| .st none <| Fn Fo [] none) λ_=>.br 38 (λ_=>.bd λx7 q7=>iA (bF (d+2) q7) <| .st none <| .st none <| Fn Fo [] none) λ_=>.br 47 (λ_=>.bd λx8 q8=>iA (bF (d+2) q8) <| .st none <| .st none <| Fn Fo [] none) λ_=>.br 55 (λ_=>.bd λx9 q9=>iA (xW (d+1) q9) <| .st none <| .st none <| Fn Fo [] none) λ_=>.br 62 (λ_=>.st none <| .st none <| Fn Fo [] none) λ_=>.st none <| Fn Fo [] none)
def BP (p_r:bn):Option (Bool) :=
 some (p_r.Client==0&&(p_r.Seq==0&&(p_r.Op.Kind==0&&(p_r.Op.Key==([]:List UInt8)&&(p_r.Op.Value==([]:List UInt8)&&(p_r.Op.Old==([]:List UInt8)&&true))))))
def NP (p_r:bn) (r:Bool):AV×WH:=((.bool r),[])
theorem aer (d:Nat) {p_r:bn} {r:Bool} (h:BP p_r=some r):Spec (aB aH (d+1)) 79 [(.agg (sO p_r))] [] (NP p_r r).1 (NP p_r r).2:=by
 unfold BP at h
 exact aX nB ayL h (Fn Fo [] none)
abbrev Vj (o:bD):Fast×WH:=([(1,(.ptr (some (0,0))))],[(some (.cells (fQ o) false false))])
def TI (o:bD):Unit⊕Unit→Ex×Fast×WH:=fun
 | .inl e=>(.ret,[(2,(.bool false))],[])
 | .inr e=>(.normal,[(1,(.ptr (some (0,0))))],[(some (.cells (fQ o) false false))])
def Ct (o:bD):Option (Unit⊕Unit) :=
 cond (decide (o.Kind < 1)) (some (.inl ())) (cond (decide (o.Kind > 4)) (some (.inl ())) (cond (decide ((o.Key.length:Int) < 1)) (some (.inl ())) (cond (decide ((o.Key.length:Int) > 8)) (some (.inl ())) (cond (decide ((o.Value.length:Int) > 16)) (some (.inl ())) (cond (decide ((o.Old.length:Int) > 16)) (some (.inl ())) (some (.inr ())))))))
theorem LX (d:Nat) {o:bD} {r:Unit⊕Unit} (h:Ct o=some r):bJ (aU (aB aH (d+0)) KK 58 agf) 0 (Vj o) (TI o r):=by
 unfold Ct at h
 exact bA nB agh h (.br 6 (λ_=>E0 [2]) λ_=>.br 11 (λ_=>E0 [2]) λ_=>.br 17 (λ_=>E0 [2]) λ_=>.br 23 (λ_=>E0 [2]) λ_=>.br 29 (λ_=>E0 [2]) λ_=>.br 34 (λ_=>E0 [2]) λ_=>E0 [1])
def yV (o:bD):Option (Bool) :=
 (Ct o).bind λ(x1:Unit⊕Unit)=>cond (jI x1) (some false) (cond (o.Value==([]:List UInt8)) (cond (o.Old==([]:List UInt8)) (some true) (some (o.Kind==4))) (cond (o.Kind==2) (cond (o.Old==([]:List UInt8)) (some true) (some (o.Kind==4))) (cond (o.Kind==4) (cond (o.Old==([]:List UInt8)) (some true) (some (o.Kind==4))) (some false))))
def NQ (o:bD) (r:Bool):AV×WH:=((.bool r),[])
theorem K4 (d:Nat) {o:bD} {r:Bool} (h:yV o=some r):Spec (aB aH (d+1)) 110 [(.agg (fQ o))] [] (NQ o r).1 (NQ o r).2:=by
 unfold yV at h
 exact aX nB awT h (.sk <| .bd λx1 q1=>.ite (λhb2=>Jn [1] [none] [] [] (jA (il hb2) (LX (d+0) q1)) <| Fn Fo [] none) λhb2=>Jn [1] [none] [] [] (jA (zy hb2) (LX (d+0) q1)) <| .br 38 (λ_=>.br 52 (λ_=>Fn Fo [] none) λ_=>Fn Fo [] none) λ_=>.br 43 (λ_=>.br 52 (λ_=>Fn Fo [] none) λ_=>Fn Fo [] none) λ_=>.br 48 (λ_=>.br 52 (λ_=>Fn Fo [] none) λ_=>Fn Fo [] none) λ_=>Fn Fo [] none)
def zD (p_r:bn):Option (Bool) :=
 cond (decide (p_r.Client≥0)) (cond (decide (p_r.Client < 4)) (cond (decide (p_r.Seq≥1)) (cond (decide (p_r.Seq≤4611686018427387903)) ((yV p_r.Op).bind λ(x1:Bool)=>some x1) (some false)) (some false)) (some false)) (some false)
def LY (p_r:bn) (r:Bool):AV×WH:=((.bool r),[])
theorem QE (d:Nat) {p_r:bn} {r:Bool} (h:zD p_r=some r):Spec (aB aH (d+2)) 80 [(.agg (sO p_r))] [] (LY p_r r).1 (LY p_r r).2:=by
 unfold zD at h
 exact aX nB ayM h (.br 6 (λ_=>.br 11 (λ_=>.br 16 (λ_=>.br 21 (λ_=>.bd λx1 q1=>iA (K4 (d+0) q1) <| Fn Fo [] none) λ_=>Fn Fo [] none) λ_=>Fn Fo [] none) λ_=>Fn Fo [] none) λ_=>Fn Fo [] none)
def qL (p_r:bn):Option (Bool) :=
 (BP p_r).bind λ(x1:Bool)=>cond x1 (some true) ((zD p_r).bind λ(x2:Bool)=>some x2)
def QF (p_r:bn) (r:Bool):AV×WH:=((.bool r),[])
theorem C_ (d:Nat) {p_r:bn} {r:Bool} (h:qL p_r=some r):Spec (aB aH (d+3)) 35 [(.agg (sO p_r))] [] (QF p_r r).1 (QF p_r r).2:=by
 unfold qL at h
 exact aX nB ayb h (.bd λx1 q1=>iA (aer (d+1) q1) <| .br 5 (λ_=>Fn Fo [] none) λ_=>.bd λx2 q2=>iA (QE (d+0) q2) <| Fn Fo [] none)
def nQ (aM:List au) (key:List UInt8) (s3:Int):List AV×WH:=([(.ptr (some (0,0))),(.str key),(.int .i64 s3)],[(some (.cells [(.acc 1 0 2 aM.length true)] false false)),(some (.cells (aC aM) false true))])
def rP (aM:List au) (key:List UInt8):(Int×Bool)⊕Unit→Ex×Fast×WH:=fun
 | .inl e=>(.ret,[(4,(.int .i64 e.1)),(5,(.bool e.2))],[(some (.cells [(.acc 1 0 2 aM.length true)] false false)),(some (.cells (aC aM) false true))])
 | .inr e=>((.exit 0),[(0,(.ptr (some (0,0))))],[(some (.cells [(.acc 1 0 2 aM.length true)] false false)),(some (.cells (aC aM) false true))])
abbrev MP (aM:List au) (key:List UInt8):=dx [0,1,6] (nQ aM key) (rP aM key)
def lq (aM:List au) (key:List UInt8) (s3:Int):Option ((Int)⊕((Int×Bool)⊕Unit)) :=
 cond (decide (s3 < (aM.length:Int))) ((bO aM s3).bind λ(x4:au)=>cond (!(Op.bytesLess x4.Key key)) ((bO aM s3).bind λ(x5:au)=>some (.inr (.inl (s3,(x5.Key==key))))) (some (.inl (IntKind.i64.wrap (s3+1))))) (some (.inr (.inr ())))
def yX (aM:List au) (key:List UInt8) (s3:Int):Option ((Int×Bool)⊕Unit):=bT (lq aM key) KK s3
theorem NS (d:Nat) {aM:List au} {key:List UInt8} {s3:Int} {r:(Int)⊕((Int×Bool)⊕Unit)} (h:lq aM key s3=some r):bJ (aU (aB aH (d+0)) KK 42 TA) 2 (jg [0,1,6] (nQ aM key s3)) (MP aM key r):=by
 unfold lq at h
 exact bA nB ZE h (.br 13 (λ_=>.bd λx4 q4=>Ia aQ 21 1 q4 <| Ld aQ 23 false 1 0 q4 (.str x4.Key) rfl <| .br 25 (λ_=>.bd λx5 q5=>Ia aQ 32 1 q5 <| Ld aQ 34 false 1 0 q5 (.str x5.Key) rfl <| E0 [4,5]) λ_=>E0 [0,1,6]) λ_=>E0 [0])
theorem Da (d:Nat) {aM:List au} {key:List UInt8} {s3:Int} {r:(Int×Bool)⊕Unit} (h:yX aM key s3=some r):bJ (eu (aU (aB aH (d+0)) KK 42 TA) [0,1,6] KK) 2 (jg [0,1,6] (nQ aM key s3)) (rP aM key r) :=
 bY (st:=nQ aM key) (fin:=rP aM key) (step:=lq aM key) (λe=>by rcases e with e | e<;>(intro h;cases h)) (λs x h=>NS d h) KK s3 r h
def oF (key:List UInt8) (aM:List au):Option (Int×Bool) :=
 (yX aM key 0).bind λ(x6:(Int×Bool)⊕Unit)=>cond (jI x6) (some ((CV x6).1,(CV x6).2)) (some ((aM.length:Int),false))
def Eo (key:List UInt8) (aM:List au) (r:Int×Bool):AV×WH:=((.tuple [(.int .i64 r.1),(.bool r.2)]),[(some (.cells [(.acc 1 0 2 aM.length true)] false false)),(some (.cells (aC aM) false true))])
theorem TJ (d:Nat) {key:List UInt8} {aM:List au} {r:Int×Bool} (h:oF key aM=some r):Spec (aB aH (d+1)) 134 [(.ptr (some (0,0))),(.str key)] [(some (.cells [(.acc 1 0 2 aM.length true)] false false)),(some (.cells (aC aM) false true))] (Eo key aM r).1 (Eo key aM r).2:=by
 unfold oF at h
 exact aX nB avb h (.bd λx6 q6=>.ite (λDW=>Lp [none,none,none] [] [] (jA (il DW) (Da (d+0) q6)) <| Fn Fo [] none) λDW=>Lp [none,none,none] [] [] (jA (zy DW) (Da (d+0) q6)) <| Fn Fo [] none)
abbrev PW (x2:Int×Bool) (aM:List au) (o:bD):Fast×WH:=([(0,(.ptr (some (0,0)))),(3,(.ptr (some (2,0)))),(4,(.ptr (some (3,0)))),(5,(.int .i64 x2.1)),(6,(.bool x2.2))],[(some (.cells [(.acc 1 0 2 aM.length true)] false false)),(some (.cells (aC aM) false true)),(some (.cells (fQ o) false false)),(some (.cells (dQ (⟨0,([]:List UInt8)⟩:aD)) false false))])
def NT (x2:Int×Bool) (aM:List au) (o:bD):Unit⊕Unit→Ex×Fast×WH:=fun
 | .inl e=>(.ret,[(4,(.ptr (some (2,0))))],[(some (.cells [(.acc 1 0 2 aM.length true)] false false)),(some (.cells (aC aM) false true)),(some (.cells (dQ (⟨5,([]:List UInt8)⟩:aD)) false false))])
 | .inr e=>(.normal,[(0,(.ptr (some (0,0)))),(3,(.ptr (some (2,0)))),(4,(.ptr (some (3,0)))),(5,(.int .i64 x2.1)),(6,(.bool x2.2))],[(some (.cells [(.acc 1 0 2 aM.length true)] false false)),(some (.cells (aC aM) false true)),(some (.cells (fQ o) false false)),(some (.cells (dQ (⟨0,([]:List UInt8)⟩:aD)) false false))])
def vW (x2:Int×Bool) (aM:List au) (o:bD):Option (Unit⊕Unit) :=
 cond (!x2.2) (cond (decide ((aM.length:Int)≥8)) (some (.inl ())) (some (.inr ()))) (some (.inr ()))
theorem FE (d:Nat) {x2:Int×Bool} {aM:List au} {o:bD} {r:Unit⊕Unit} (h:vW x2 aM o=some r):bJ (aU (aB aH (d+0)) KK 147 Ab) 2 (PW x2 aM o) (NT x2 aM o r):=by
 unfold vW at h
 exact bA nB C9 h (.br 40 (λ_=>.br 47 (λ_=>.st none <| E0 [4]) λ_=>E0 [0,3,4,5,6]) λ_=>E0 [0,3,4,5,6])
abbrev PX (x2:Int×Bool) (x6:List au) (o:bD) (aM:List au):Fast×WH:=([(0,(.ptr (some (0,0)))),(4,(.ptr (some (2,0)))),(5,(.int .i64 x2.1)),(6,(.bool x2.2)),(7,(.acc 3 0 2 (x6++[(⟨o.Key,o.Value⟩:au)]).length true))],[(some (.cells [(.acc 1 0 2 aM.length true)] false false)),(some (.cells (aC aM) false true)),(some (.cells (dQ (⟨0,([]:List UInt8)⟩:aD)) false false)),(some (.cells (aC (x6++[(⟨o.Key,o.Value⟩:au)])) false true))])
def NU (x2:Int×Bool) (x6:List au) (o:bD) (aM:List au):Int→Ex×Fast×WH:=λe=>(.normal,[(0,(.ptr (some (0,0)))),(4,(.ptr (some (2,0)))),(5,(.int .i64 e)),(7,(.acc 3 0 2 (x6++[(⟨o.Key,o.Value⟩:au)]).length true))],[(some (.cells [(.acc 1 0 2 aM.length true)] false false)),(some (.cells (aC aM) false true)),(some (.cells (dQ (⟨0,([]:List UInt8)⟩:aD)) false false)),(some (.cells (aC (x6++[(⟨o.Key,o.Value⟩:au)])) false true))])
def vX (x2:Int×Bool) (x6:List au) (o:bD) (aM:List au):Option (Int) :=
 cond x2.2 (some (IntKind.i64.wrap (x2.1+1))) (some x2.1)
theorem Rs (d:Nat) {x2:Int×Bool} {x6:List au} {o:bD} {aM:List au} {r:Int} (h:vX x2 x6 o aM=some r):bJ (aU (aB aH (d+0)) KK 147 uM) 2 (PX x2 x6 o aM) (NU x2 x6 o aM r):=by
 unfold vX at h
 exact bA nB zB h (.br 65 (λ_=>E1 [0,4,5,7] [none,none,none,none] [] [.undef,.undef,.undef,.slice none 2 0 0 true]) λ_=>E1 [0,4,5,7] [none,none,none,none] [] [.undef,.undef,.undef,.slice none 2 0 0 true])
def xY (o:bD) (aM:List au):Option (aD×List au) :=
 (yV o).bind λ(x1:Bool)=>cond (!x1) (some ((⟨1,([]:List UInt8)⟩:aD),aM)) ((oF o.Key aM).bind λ(x2:Int×Bool)=>cond (o.Kind==1) (cond (!x2.2) (some ((⟨4,([]:List UInt8)⟩:aD),aM)) ((bO aM x2.1).bind λ(x3:au)=>some ((⟨0,x3.Value⟩:aD),aM))) (cond (o.Kind==2) ((vW x2 aM o).bind λ(x4:Unit⊕Unit)=>cond (jI x4) (some ((⟨5,([]:List UInt8)⟩:aD),aM)) ((LQ aM 0 x2.1).bind λ(x6:List au)=>gd (dh 32 x6.length) (gd (dh 32 (x6++[(⟨o.Key,o.Value⟩:au)]).length) ((vX x2 x6 o aM).bind λ(x9:Int)=>(LQ aM x9 aM.length).bind λ(x10:List au)=>gd (dh 32 ((x6++[(⟨o.Key,o.Value⟩:au)])++x10).length) (some ((⟨0,([]:List UInt8)⟩:aD),((x6++[(⟨o.Key,o.Value⟩:au)])++x10))))))) (cond (o.Kind==3) (cond (!x2.2) (some ((⟨4,([]:List UInt8)⟩:aD),aM)) ((LQ aM 0 x2.1).bind λ(cu:List au)=>gd (dh 32 cu.length) ((LQ aM (IntKind.i64.wrap (x2.1+1)) aM.length).bind λ(lH:List au)=>gd (dh 32 (cu++lH).length) (some ((⟨0,([]:List UInt8)⟩:aD),(cu++lH)))))) (cond (!x2.2) (some ((⟨4,([]:List UInt8)⟩:aD),aM)) ((bO aM x2.1).bind λ(yY:au)=>cond (!(yY.Value==o.Old)) ((bO aM x2.1).bind λ(iU:au)=>some ((⟨6,iU.Value⟩:aD),aM)) (gd (dh 32 aM.length) ((bO aM x2.1).bind λ(om:au)=>some ((⟨0,([]:List UInt8)⟩:aD),(aM.set x2.1.toNat (⟨om.Key,o.Value⟩:au))))))))))
def lI (o:bD) (aM:List au) (r:aD×List au):AV×WH:=((.agg (dQ r.1)),[(some (.cells [(.acc 2 0 2 r.2.length true)] false false)),none,(some (.cells (aC r.2) false true))])
theorem Xz (d:Nat) {o:bD} {aM:List au} {r:aD×List au} (h:xY o aM=some r):Spec (aB aH (d+2)) 114 [(.ptr (some (0,0))),(.agg (fQ o))] [(some (.cells [(.acc 1 0 2 aM.length true)] false false)),(some (.cells (aC aM) false true))] (lI o aM r).1 (lI o aM r).2:=by
 unfold xY at h
 exact aX nB au9 h (.bd λx1 q1=>iA (K4 (d+0) q1) <| .br 11 (λ_=>.st none <| Fn Fo [] Tw) λ_=>.bd λx2 q2=>Cl0 (TJ (d+0) q2) <| .br 22 (λ_=>.br 25 (λ_=>.st none <| Fn Fo [] Tw) λ_=>.bd λx3 q3=>Ia aQ 32 1 q3 <| Ld aQ 34 false 1 1 q3 (.str x3.Value) rfl <| .st none <| Fn Fo [] Tw) λ_=>.br 36 (λ_=>.bd λx4 q4=>.ite (λhb5=>Jn [0,3,4,5,6] [none,none,none,none,none] [] [] (jA (il hb5) (FE (d+1) q4)) <| Fn Fo [] Tw) λhb5=>Jn [0,3,4,5,6] [none,none,none,none,none] [] [] (jA (zy hb5) (FE (d+1) q4)) <| .bd λx6 q6=>.v 55 (.acc 1 0 2 x6.length false) <| .ob (Y7 aQ q6:wP (.slice 2 (.c (.acc 1 0 2 aM.length true)) none (some (.c (.int .i64 x2.1))) none)=some (.acc 1 0 2 x6.length false)) <| .gd λq7=>.ap 56 x6.length (aC x6) <| .ob (by (try rw [ny aQ q6]);(try rw [jR aQ q6]);simp:0+x6.length=x6.length) <| .ob (by (try rw [ny aQ q6]);(try rw [jR aQ q6]);first | rfl | simp [aC]:aC []++((aC aM).drop (0)).take (x6.length * 2)=aC x6) <| .ob q7 <| .gd λq8=>.ap 64 (x6++[(⟨o.Key,o.Value⟩:au)]).length (aC (x6++[(⟨o.Key,o.Value⟩:au)])) <| .ob (by (try rw [ny aQ q6]);(try rw [jR aQ q6]);simp:x6.length+1=(x6++[(⟨o.Key,o.Value⟩:au)]).length) <| .ob (by (try rw [ny aQ q6]);(try rw [jR aQ q6]);exact (Row.app aQ _ _).symm:aC x6++aC ([(⟨o.Key,o.Value⟩:au)])=aC (x6++[(⟨o.Key,o.Value⟩:au)])) <| .ob q8 <| .bd λx9 q9=>Jn [0,4,5,6,7] [none,none,none,none,none] [] [.undef,.undef,.undef,.undef,.slice none 2 0 0 true] (Rs (d+1) q9) <| .bd λx10 KV=>.v 75 (.acc 1 (0+x9.toNat * 2) 2 x10.length false) <| .ob (by (try rw [ny aQ q6]);(try rw [jR aQ q6]);exact Y6 aQ KV:wP (.slice 2 (.c (.acc 1 0 2 aM.length true)) (some (.c (.int .i64 x9))) none none)=some (.acc 1 (0+x9.toNat * 2) 2 x10.length false)) <| .gd λIV=>.ap 76 ((x6++[(⟨o.Key,o.Value⟩:au)])++x10).length (aC ((x6++[(⟨o.Key,o.Value⟩:au)])++x10)) <| .ob (by (try rw [ny aQ q6]);(try rw [jR aQ q6]);(try rw [Nt aQ KV]);exact adS _ _:(x6++[(⟨o.Key,o.Value⟩:au)]).length+x10.length=((x6++[(⟨o.Key,o.Value⟩:au)])++x10).length) <| .ob (by (try rw [ny aQ q6]);(try rw [jR aQ q6]);(try rw [Nt aQ KV]);exact (Row.app aQ _ _).symm:aC (x6++[(⟨o.Key,o.Value⟩:au)])++((aC aM).drop (0+x9.toNat * 2)).take (x10.length * 2)=aC ((x6++[(⟨o.Key,o.Value⟩:au)])++x10)) <| .ob IV <| .st none <| .st none <| .kl [1] <| Fn Fo [] Tw) λ_=>.br 80 (λ_=>.br 83 (λ_=>.st none <| Fn Fo [] Tw) λ_=>.bd λcu KZ=>.v 92 (.acc 1 0 2 cu.length false) <| .ob (Y7 aQ KZ:wP (.slice 2 (.c (.acc 1 0 2 aM.length true)) none (some (.c (.int .i64 x2.1))) none)=some (.acc 1 0 2 cu.length false)) <| .gd λXA=>.ap 93 cu.length (aC cu) <| .ob (by (try rw [ny aQ KZ]);(try rw [jR aQ KZ]);simp:0+cu.length=cu.length) <| .ob (by (try rw [ny aQ KZ]);(try rw [jR aQ KZ]);first | rfl | simp [aC]:aC []++((aC aM).drop (0)).take (cu.length * 2)=aC cu) <| .ob XA <| .bd λlH LW=>.v 100 (.acc 1 (0+(IntKind.i64.wrap (x2.1+1)).toNat * 2) 2 lH.length false) <| .ob (by (try rw [ny aQ KZ]);(try rw [jR aQ KZ]);exact Y6 aQ LW:wP (.slice 2 (.c (.acc 1 0 2 aM.length true)) (some (.c (.int .i64 (IntKind.i64.wrap (x2.1+1))))) none none)=some (.acc 1 (0+(IntKind.i64.wrap (x2.1+1)).toNat * 2) 2 lH.length false)) <| .gd λKC=>.ap 101 (cu++lH).length (aC (cu++lH)) <| .ob (by (try rw [ny aQ KZ]);(try rw [jR aQ KZ]);(try rw [Nt aQ LW]);exact adS _ _:cu.length+lH.length=(cu++lH).length) <| .ob (by (try rw [ny aQ KZ]);(try rw [jR aQ KZ]);(try rw [Nt aQ LW]);exact (Row.app aQ _ _).symm:aC cu++((aC aM).drop (0+(IntKind.i64.wrap (x2.1+1)).toNat * 2)).take (lH.length * 2)=aC (cu++lH)) <| .ob KC <| .st none <| .st none <| .kl [1] <| Fn Fo [] Tw) λ_=>.br 105 (λ_=>.st none <| Fn Fo [] Tw) λ_=>.bd λyY q16=>Ia aQ 115 1 q16 <| Ld aQ 117 false 1 1 q16 (.str yY.Value) rfl <| .br 109 (λ_=>.bd λiU GH=>Ia aQ 126 1 GH <| Ld aQ 128 false 1 1 GH (.str iU.Value) rfl <| .st none <| Fn Fo [] Tw) λ_=>.gd λVk=>Ap0 aQ 135 Vk <| .bd λom QG=>Ia aQ 140 5 QG <| .st (some (aC (aM.set x2.1.toNat (⟨om.Key,o.Value⟩:au)))) <| .ob (DT (o:=1) aQ QG rfl:U2 (aC aM) (0+x2.1.toNat * 2+1) [(.str o.Value)]=some (aC (aM.set x2.1.toNat (⟨om.Key,o.Value⟩:au)))) <| .st none <| .st none <| .kl [1] <| .xP (.fin (some false) [] (some true)) _ (λr=>@Eq AV (.agg (dQ (⟨0,([]:List UInt8)⟩:aD))) (lI o aM r).1∧@Eq WH [(some (.cells [(.acc 2 0 2 aM.length true)] false false)),none,(some (.cells (aC (aM.set x2.1.toNat (⟨om.Key,o.Value⟩:au))) false true))] (lI o aM r).2) (by show _∧_;(try rw [show AV.list 2 aM.length (aC (aM.set x2.1.toNat (⟨om.Key,o.Value⟩:au))) false=bQ (aM.set x2.1.toNat (⟨om.Key,o.Value⟩:au)) from by simp only [bQ,List.length_set]]);refine ⟨?_, ?_⟩<;>first | rfl | (simp only [lI,List.length_set,List.length_append,List.length_replicate,List.length_cons,List.length_nil,List.length_take,List.length_drop,Nat.add_zero,Nat.zero_add];done) | simp [lI]))
def vY (l:List au) (s7:Int×List au):List AV×WH:=([(bQ l),(.ptr (some (0,0))),(.ptr (some (1,0))),(.int .i64 s7.1)],[(some (.cells [(.acc 2 0 2 0 true)] false false)),(some (.cells [(.acc 3 0 2 s7.2.length true)] false false)),(some (.cells (aC []) false true)),(some (.cells (aC s7.2) false true))])
def Af (l:List au):(List au)→Ex×Fast×WH:=λe=>((.exit 0),[(2,(.ptr (some (0,0)))),(3,(.ptr (some (1,0))))],[(some (.cells [(.acc 2 0 2 0 true)] false false)),(some (.cells [(.acc 3 0 2 e.length true)] false false)),(some (.cells (aC []) false true)),(some (.cells (aC e) false true))])
abbrev Vl (l:List au):=dx [0,2,3,4] (vY l) (Af l)
def oG (l:List au) (s7:Int×List au):Option ((Int×List au)⊕((List au))) :=
 cond (decide (s7.1 < (l.length:Int))) ((bO l s7.1).bind λ(x8:au)=>(bO l s7.1).bind λ(x9:au)=>(xY (⟨2,x8.Key,x9.Value,([]:List UInt8)⟩:bD) s7.2).bind λ(x10:aD×List au)=>some (.inl ((IntKind.i64.wrap (s7.1+1)),x10.2))) (some (.inr s7.2))
def IW (l:List au) (s7:Int×List au):Option ((List au)):=bT (oG l) KK s7
theorem XB (d:Nat) {l:List au} {s7:Int×List au} {r:(Int×List au)⊕((List au))} (h:oG l s7=some r):bJ (aU (aB aH (d+2)) KK 25 aeb) 0 (jg [0,2,3,4] (vY l s7)) (Vl l r):=by
 unfold oG at h
 exact bA nB aiY h (.br 9 (λ_=>.bd λx8 q8=>Ix aQ 14 q8 <| .bd λx9 q9=>Ix aQ 19 q9 <| .bd λx10 KV=>Cl0 (Xz (d+0) KV) <| E1 [0,2,3,4] [none,none,none,none] [] [.slice none 2 0 0 true,.undef,.undef,.undef]) λ_=>E0 [2,3])
theorem XC (d:Nat) {l:List au} {s7:Int×List au} {r:(List au)} (h:IW l s7=some r):bJ (eu (aU (aB aH (d+2)) KK 25 aeb) [0,2,3,4] KK) 0 (jg [0,2,3,4] (vY l s7)) (Af l r) :=
 bY (st:=vY l) (fin:=Af l) (step:=oG l) (λe=>by (intro h;cases h)) (λs x h=>XB d h) KK s7 r h
def FH (l:List au):Option (uJ) :=
 (IW l (0,[])).bind λ(dV:(List au))=>some (⟨dV⟩:uJ)
def NV (l:List au) (r:uJ):AV×WH:=((.agg (ah5 r)),[])
theorem aes (d:Nat) {l:List au} {r:uJ} (h:FH l=some r):Spec (aB aH (d+3)) 111 [(bQ l)] [] (NV l r).1 (NV l r).2:=by
 unfold FH at h
 exact aX nB awU h (.z 2 [.slice none 2 0 0 true] <| .z 5 [.agg [.slice none 2 0 0 true]] <| .z 3 [.slice none 2 0 0 true] <| .st none <| .bd λdV IV=>Lp [none,none,none,none] [Tw,Tw,Tw,Tw] [.slice none 2 0 0 true,.undef,.undef,.undef] (XC (d+0) IV) <| .st none <| Fn Fo [.agg [.slice none 2 0 0 true]] none)
def kR (aM:List ak) (client:Int) (s3:Int):List AV×WH:=([(.ptr (some (0,0))),(.int .i64 client),(.ptr (some (2,0))),(.int .i64 s3)],[(some (.cells [(.acc 1 0 4 aM.length true)] false false)),(some (.cells (aO aM) false true)),(some (.cells (bM (⟨0,0,(⟨0,([]:List UInt8)⟩:aD)⟩:ak)) false false))])
def oo (aM:List ak) (client:Int):ak⊕Unit→Ex×Fast×WH:=fun
 | .inl e=>(.ret,[(4,(.ptr (some (2,0)))),(5,(.bool true))],[(some (.cells [(.acc 1 0 4 aM.length true)] false false)),(some (.cells (aO aM) false true)),(some (.cells (bM e) false false))])
 | .inr e=>((.exit 0),[(4,(.ptr (some (2,0))))],[(some (.cells [(.acc 1 0 4 aM.length true)] false false)),(some (.cells (aO aM) false true)),(some (.cells (bM (⟨0,0,(⟨0,([]:List UInt8)⟩:aD)⟩:ak)) false false))])
abbrev IX (aM:List ak) (client:Int):=dx [0,1,4,6] (kR aM client) (oo aM client)
def jv (aM:List ak) (client:Int) (s3:Int):Option ((Int)⊕(ak⊕Unit)) :=
 cond (decide (s3 < (aM.length:Int))) ((bO aM s3).bind λ(x4:ak)=>cond (x4.Client==client) ((bO aM s3).bind λ(x5:ak)=>some (.inr (.inl x5))) (some (.inl (IntKind.i64.wrap (s3+1))))) (some (.inr (.inr ())))
def sW (aM:List ak) (client:Int) (s3:Int):Option (ak⊕Unit):=bT (jv aM client) KK s3
theorem JL (d:Nat) {aM:List ak} {client:Int} {s3:Int} {r:(Int)⊕(ak⊕Unit)} (h:jv aM client s3=some r):bJ (aU (aB aH (d+0)) KK 34 Tv) 2 (jg [0,1,4,6] (kR aM client s3)) (IX aM client r):=by
 unfold jv at h
 exact bA nB Zz h (.br 13 (λ_=>.bd λx4 q4=>Ia bS 21 1 q4 <| Ld bS 23 false 1 0 q4 (.int .i64 x4.Client) rfl <| .br 25 (λ_=>.bd λx5 q5=>Ia bS 31 1 q5 <| Ld bS 32 true 4 0 q5 (.agg (bM x5)) rfl <| .st none <| E0 [4,5]) λ_=>E0 [0,1,4,6]) λ_=>E0 [4])
theorem zF (d:Nat) {aM:List ak} {client:Int} {s3:Int} {r:ak⊕Unit} (h:sW aM client s3=some r):bJ (eu (aU (aB aH (d+0)) KK 34 Tv) [0,1,4,6] KK) 2 (jg [0,1,4,6] (kR aM client s3)) (oo aM client r) :=
 bY (st:=kR aM client) (fin:=oo aM client) (step:=jv aM client) (λe=>by rcases e with e | e<;>(intro h;cases h)) (λs x h=>JL d h) KK s3 r h
def nA (client:Int) (aM:List ak):Option (ak×Bool) :=
 (sW aM client 0).bind λ(x6:ak⊕Unit)=>cond (jI x6) (some ((CV x6),true)) (some ((⟨0,0,(⟨0,([]:List UInt8)⟩:aD)⟩:ak),false))
def Ag (client:Int) (aM:List ak) (r:ak×Bool):AV×WH:=((.tuple [(.agg (bM r.1)),(.bool r.2)]),[(some (.cells [(.acc 1 0 4 aM.length true)] false false)),(some (.cells (aO aM) false true))])
theorem NW (d:Nat) {client:Int} {aM:List ak} {r:ak×Bool} (h:nA client aM=some r):Spec (aB aH (d+1)) 113 [(.ptr (some (0,0))),(.int .i64 client)] [(some (.cells [(.acc 1 0 4 aM.length true)] false false)),(some (.cells (aO aM) false true))] (Ag client aM r).1 (Ag client aM r).2:=by
 unfold nA at h
 exact aX nB au8 h (.bd λx6 q6=>.ite (λDW=>Lp [none,none,none,none] [] [] (jA (il DW) (zF (d+0) q6)) <| Fn Fo [] none) λDW=>Lp [none,none,none,none] [] [] (jA (zy DW) (zF (d+0) q6)) <| .st none <| Fn Fo [] none)
abbrev IY (aS:ak) (x1:ak×Bool) (aM:List ak):Fast×WH:=([(0,(.ptr (some (0,0)))),(3,(.ptr (some (2,0)))),(5,(.ptr (some (3,0))))],[(some (.cells [(.acc 1 0 4 aM.length true)] false false)),(some (.cells (aO aM) false true)),(some (.cells (bM aS) false false)),(some (.cells (bM x1.1) false false))])
def GI (aS:ak) (x1:ak×Bool) (aM:List ak):Unit⊕Unit→Ex×Fast×WH:=fun
 | .inl e=>(.ret,[(4,(.bool false))],[(some (.cells [(.acc 1 0 4 aM.length true)] false false)),(some (.cells (aO aM) false true))])
 | .inr e=>(.normal,[(0,(.ptr (some (0,0)))),(3,(.ptr (some (2,0))))],[(some (.cells [(.acc 1 0 4 aM.length true)] false false)),(some (.cells (aO aM) false true)),(some (.cells (bM aS) false false))])
def iV (aS:ak) (x1:ak×Bool) (aM:List ak):Option (Unit⊕Unit) :=
 cond (decide (aS.Client < 0)) (some (.inl ())) (cond (decide (aS.Client≥4)) (some (.inl ())) (cond (decide (aS.Seq < 1)) (some (.inl ())) (cond (decide (aS.Seq≤x1.1.Seq)) (some (.inl ())) (some (.inr ())))))
theorem zG (d:Nat) {aS:ak} {x1:ak×Bool} {aM:List ak} {r:Unit⊕Unit} (h:iV aS x1 aM=some r):bJ (aU (aB aH (d+0)) KK 96 Vi) 2 (IY aS x1 aM) (GI aS x1 aM r):=by
 unfold iV at h
 exact bA nB Tx h (.br 20 (λ_=>E0 [4]) λ_=>.br 25 (λ_=>E0 [4]) λ_=>.br 30 (λ_=>E0 [4]) λ_=>.br 36 (λ_=>E0 [4]) λ_=>E0 [0,3])
abbrev IZ (kg:Bool×Int×List ak) (aM:List ak) (aS:ak):Fast×WH:=([(0,(.ptr (some (0,0)))),(3,(.ptr (some (2,0)))),(7,(.acc 3 0 4 kg.2.2.length true)),(8,(.bool kg.1)),(9,(.int .i64 kg.2.1))],[(some (.cells [(.acc 1 0 4 aM.length true)] false false)),(some (.cells (aO aM) false true)),(some (.cells (bM aS) false false)),(some (.cells (aO kg.2.2) false true))])
def GJ (kg:Bool×Int×List ak) (aM:List ak) (aS:ak):Bool→Ex×Fast×WH:=λe=>(.normal,[(0,(.ptr (some (0,0)))),(3,(.ptr (some (2,0)))),(7,(.acc 3 0 4 kg.2.2.length true)),(8,(.bool kg.1)),(9,(.int .i64 kg.2.1)),(60,(.bool e))],[(some (.cells [(.acc 1 0 4 aM.length true)] false false)),(some (.cells (aO aM) false true)),(some (.cells (bM aS) false false)),(some (.cells (aO kg.2.2) false true))])
def nR (kg:Bool×Int×List ak) (aM:List ak) (aS:ak):Option (Bool) :=
 cond (!kg.1) ((bO aM kg.2.1).bind λ(om:ak)=>some (decide (om.Client≥aS.Client))) (some false)
theorem JM (d:Nat) {kg:Bool×Int×List ak} {aM:List ak} {aS:ak} {r:Bool} (h:nR kg aM aS=some r):bJ (aU (aB aH (d+0)) KK 96 uN) 2 (IZ kg aM aS) (GJ kg aM aS r):=by
 unfold nR at h
 exact bA nB zC h (.br 48 (λ_=>.bd λom QG=>Ia bS 54 1 QG <| Ld bS 56 false 1 0 QG (.int .i64 om.Client) rfl <| E1 [0,3,7,8,9,60] [none,none,none,none,none,none] [] [.undef,.undef,.slice none 4 0 0 true,.undef,.undef,.undef]) λ_=>E1 [0,3,7,8,9,60] [none,none,none,none,none,none] [] [.undef,.undef,.slice none 4 0 0 true,.undef,.undef,.undef])
abbrev I4 (kg:Bool×Int×List ak) (aM:List ak) (aS:ak):Fast×WH:=([(0,(.ptr (some (0,0)))),(3,(.ptr (some (2,0)))),(7,(.acc 3 0 4 kg.2.2.length true)),(8,(.bool kg.1)),(9,(.int .i64 kg.2.1))],[(some (.cells [(.acc 1 0 4 aM.length true)] false false)),(some (.cells (aO aM) false true)),(some (.cells (bM aS) false false)),(some (.cells (aO kg.2.2) false true))])
def GK (kg:Bool×Int×List ak) (aM:List ak) (aS:ak):(Bool×List ak)→Ex×Fast×WH:=λe=>(.normal,[(0,(.ptr (some (0,0)))),(3,(.ptr (some (2,0)))),(7,(.acc 3 0 4 e.2.length true)),(8,(.bool e.1)),(9,(.int .i64 kg.2.1))],[(some (.cells [(.acc 1 0 4 aM.length true)] false false)),(some (.cells (aO aM) false true)),(some (.cells (bM aS) false false)),(some (.cells (aO e.2) false true))])
def nS (kg:Bool×Int×List ak) (aM:List ak) (aS:ak):Option ((Bool×List ak)) :=
 (nR kg aM aS).bind λ(x20:Bool)=>cond x20 (gd (dh 40 (kg.2.2++[aS]).length) (some (true,(kg.2.2++[aS])))) (some (kg.1,kg.2.2))
theorem JN (d:Nat) {kg:Bool×Int×List ak} {aM:List ak} {aS:ak} {r:(Bool×List ak)} (h:nS kg aM aS=some r):bJ (aU (aB aH (d+0)) KK 96 xB) 2 (I4 kg aM aS) (GK kg aM aS r):=by
 unfold nS at h
 exact bA nB Ac h (.bd λx20 q20=>Jn [0,3,7,8,9] [none,none,none,none,none] [] [.undef,.undef,.slice none 4 0 0 true,.undef,.undef] (JM (d+0) q20) <| .br 60 (λ_=>.gd λq21=>Ap bS 64 q21 <| E1 [0,3,7,8,9] [none,none,none,none,none] [] [.undef,.undef,.slice none 4 0 0 true,.undef,.undef]) λ_=>E1 [0,3,7,8,9] [none,none,none,none,none] [] [.undef,.undef,.slice none 4 0 0 true,.undef,.undef])
def kS (aM:List ak) (aS:ak) (kg:Bool×Int×List ak):List AV×WH:=([(.ptr (some (0,0))),(.ptr (some (2,0))),(.acc 3 0 4 kg.2.2.length true),(.bool kg.1),(.int .i64 kg.2.1)],[(some (.cells [(.acc 1 0 4 aM.length true)] false false)),(some (.cells (aO aM) false true)),(some (.cells (bM aS) false false)),(some (.cells (aO kg.2.2) false true))])
def oq (aM:List ak) (aS:ak):(Bool×List ak)→Ex×Fast×WH:=λe=>((.exit 0),[(0,(.ptr (some (0,0)))),(3,(.ptr (some (2,0)))),(7,(.acc 3 0 4 e.2.length true)),(8,(.bool e.1))],[(some (.cells [(.acc 1 0 4 aM.length true)] false false)),(some (.cells (aO aM) false true)),(some (.cells (bM aS) false false)),(some (.cells (aO e.2) false true))])
abbrev I5 (aM:List ak) (aS:ak):=dx [0,3,7,8,9] (kS aM aS) (oq aM aS)
def iw (aM:List ak) (aS:ak) (kg:Bool×Int×List ak):Option ((Bool×Int×List ak)⊕((Bool×List ak))) :=
 cond (decide (kg.2.1 < (aM.length:Int))) ((nS kg aM aS).bind λ(Fa:(Bool×List ak))=>(bO aM kg.2.1).bind λ(x23:ak)=>cond (x23.Client != aS.Client) ((bO aM kg.2.1).bind λ(x24:ak)=>gd (dh 40 (Fa.2++[x24]).length) (some (.inl (Fa.1,(IntKind.i64.wrap (kg.2.1+1)),(Fa.2++[x24]))))) (some (.inl (Fa.1,(IntKind.i64.wrap (kg.2.1+1)),Fa.2)))) (some (.inr (kg.1,kg.2.2)))
def kr (aM:List ak) (aS:ak) (kg:Bool×Int×List ak):Option ((Bool×List ak)):=bT (iw aM aS) KK kg
theorem JO (d:Nat) {aM:List ak} {aS:ak} {kg:Bool×Int×List ak} {r:(Bool×Int×List ak)⊕((Bool×List ak))} (h:iw aM aS kg=some r):bJ (aU (aB aH (d+0)) KK 96 Tz) 2 (jg [0,3,7,8,9] (kS aM aS kg)) (I5 aM aS r):=by
 unfold iw at h
 exact bA nB ZB h (.br 43 (λ_=>.sk <| .bd λFa q22=>Jn [0,3,7,8,9] [none,none,none,none,none] [] [.undef,.undef,.slice none 4 0 0 true,.undef,.undef] (JN (d+0) q22) <| .bd λx23 q23=>Ia bS 70 1 q23 <| Ld bS 72 false 1 0 q23 (.int .i64 x23.Client) rfl <| .br 75 (λ_=>.bd λx24 q24=>Ia bS 82 1 q24 <| Ld bS 83 true 4 0 q24 (.agg (bM x24)) rfl <| .gd λq25=>Ap bS 85 q25 <| E1 [0,3,7,8,9] [none,none,none,none,none] [] [.undef,.undef,.slice none 4 0 0 true,.undef,.undef]) λ_=>E1 [0,3,7,8,9] [none,none,none,none,none] [] [.undef,.undef,.slice none 4 0 0 true,.undef,.undef]) λ_=>E1 [0,3,7,8] [none,none,none,none] [] [.undef,.undef,.slice none 4 0 0 true,.undef])
theorem JQ (d:Nat) {aM:List ak} {aS:ak} {kg:Bool×Int×List ak} {r:(Bool×List ak)} (h:kr aM aS kg=some r):bJ (eu (aU (aB aH (d+0)) KK 96 Tz) [0,3,7,8,9] KK) 2 (jg [0,3,7,8,9] (kS aM aS kg)) (oq aM aS r) :=
 bY (st:=kS aM aS) (fin:=oq aM aS) (step:=iw aM aS) (λe=>by (intro h;cases h)) (λs x h=>JO d h) KK kg r h
abbrev I6 (qo:(Bool×List ak)) (aS:ak) (aM:List ak):Fast×WH:=([(0,(.ptr (some (0,0)))),(3,(.ptr (some (2,0)))),(7,(.acc 3 0 4 qo.2.length true)),(8,(.bool qo.1))],[(some (.cells [(.acc 1 0 4 aM.length true)] false false)),(some (.cells (aO aM) false true)),(some (.cells (bM aS) false false)),(some (.cells (aO qo.2) false true))])
def GL (qo:(Bool×List ak)) (aS:ak) (aM:List ak):(List ak)→Ex×Fast×WH:=λe=>(.normal,[(0,(.ptr (some (0,0)))),(7,(.acc 2 0 4 e.length true))],[(some (.cells [(.acc 1 0 4 aM.length true)] false false)),(some (.cells (aO aM) false true)),(some (.cells (aO e) false true))])
def iW (qo:(Bool×List ak)) (aS:ak) (aM:List ak):Option ((List ak)) :=
 cond (!qo.1) (gd (dh 40 (qo.2++[aS]).length) (some (qo.2++[aS]))) (some qo.2)
theorem JR (d:Nat) {qo:(Bool×List ak)} {aS:ak} {aM:List ak} {r:(List ak)} (h:iW qo aS aM=some r):bJ (aU (aB aH (d+0)) KK 96 IQ) 2 (I6 qo aS aM) (GL qo aS aM r):=by
 unfold iW at h
 exact bA nB JI h (.br 87 (λ_=>.gd λq27=>Ap bS 91 q27 <| E1 [0,7] [none,none] [] [.undef,.slice none 4 0 0 true]) λ_=>E1 [0,7] [none,none] [] [.undef,.slice none 4 0 0 true])
def jo (aS:ak) (aM:List ak):Option (Bool×List ak) :=
 (nA aS.Client aM).bind λ(x1:ak×Bool)=>(iV aS x1 aM).bind λ(x2:Unit⊕Unit)=>cond (jI x2) (some (false,aM)) ((kr aM aS (false,0,[])).bind λ(qo:(Bool×List ak))=>(iW qo aS aM).bind λ(x28:(List ak))=>some (true,x28))
def Ah (aS:ak) (aM:List ak) (r:Bool×List ak):AV×WH:=((.bool r.1),[(some (.cells [(.acc 2 0 4 r.2.length true)] false false)),none,(some (.cells (aO r.2) false true))])
theorem NY (d:Nat) {aS:ak} {aM:List ak} {r:Bool×List ak} (h:jo aS aM=some r):Spec (aB aH (d+2)) 115 [(.ptr (some (0,0))),(.agg (bM aS))] [(some (.cells [(.acc 1 0 4 aM.length true)] false false)),(some (.cells (aO aM) false true))] (Ah aS aM r).1 (Ah aS aM r).2:=by
 unfold jo at h
 exact aX nB ava h (.bd λx1 q1=>Cl0 (NW (d+0) q1) <| .st none <| .bd λx2 q2=>.ite (λhb3=>Jn [0,3,5] [none,none,none] [] [] (jA (il hb3) (zG (d+1) q2)) <| Fn Fo [] Tw) λhb3=>Jn [0,3,5] [none,none,none] [] [] (jA (zy hb3) (zG (d+1) q2)) <| .z 7 [.slice none 4 0 0 true] <| .bd λqo q26=>Lp [none,none,Tw,none,none] [] [.undef,.undef,.slice none 4 0 0 true,.undef,.undef] (JQ (d+1) q26) <| .bd λx28 q28=>Jn [0,3,7,8] [none,none,none,none] [] [.undef,.undef,.slice none 4 0 0 true,.undef] (JR (d+1) q28) <| .st none <| .kl [1] <| Fn Fo [] Tw)
def qy (l:List ak) (s5:Int×List ak):List AV×WH:=([(dD l),(.ptr (some (0,0))),(.ptr (some (1,0))),(.int .i64 s5.1)],[(some (.cells [(.acc 2 0 4 0 true)] false false)),(some (.cells [(.acc 3 0 4 s5.2.length true)] false false)),(some (.cells (aO []) false true)),(some (.cells (aO s5.2) false true))])
def uO (l:List ak):(List ak)→Ex×Fast×WH:=λe=>((.exit 0),[(2,(.ptr (some (0,0)))),(3,(.ptr (some (1,0))))],[(some (.cells [(.acc 2 0 4 0 true)] false false)),(some (.cells [(.acc 3 0 4 e.length true)] false false)),(some (.cells (aO []) false true)),(some (.cells (aO e) false true))])
abbrev PY (l:List ak):=dx [0,2,3,4] (qy l) (uO l)
def kD (l:List ak) (s5:Int×List ak):Option ((Int×List ak)⊕((List ak))) :=
 cond (decide (s5.1 < (l.length:Int))) ((bO l s5.1).bind λ(x6:ak)=>(jo x6 s5.2).bind λ(x7:Bool×List ak)=>some (.inl ((IntKind.i64.wrap (s5.1+1)),x7.2))) (some (.inr s5.2))
def BQ (l:List ak) (s5:Int×List ak):Option ((List ak)):=bT (kD l) KK s5
theorem Ru (d:Nat) {l:List ak} {s5:Int×List ak} {r:(Int×List ak)⊕((List ak))} (h:kD l s5=some r):bJ (aU (aB aH (d+2)) KK 18 aec) 0 (jg [0,2,3,4] (qy l s5)) (PY l r):=by
 unfold kD at h
 exact bA nB aiZ h (.br 9 (λ_=>.bd λx6 q6=>Ix bS 14 q6 <| .bd λx7 q7=>Cl0 (NY (d+0) q7) <| E1 [0,2,3,4] [none,none,none,none] [] [.slice none 4 0 0 true,.undef,.undef,.undef]) λ_=>E0 [2,3])
theorem Rv (d:Nat) {l:List ak} {s5:Int×List ak} {r:(List ak)} (h:BQ l s5=some r):bJ (eu (aU (aB aH (d+2)) KK 18 aec) [0,2,3,4] KK) 0 (jg [0,2,3,4] (qy l s5)) (uO l r) :=
 bY (st:=qy l) (fin:=uO l) (step:=kD l) (λe=>by (intro h;cases h)) (λs x h=>Ru d h) KK s5 r h
def xZ (l:List ak):Option (oQ) :=
 (BQ l (0,[])).bind λ(x8:(List ak))=>some (⟨x8⟩:oQ)
def HZ (l:List ak) (r:oQ):AV×WH:=((.agg (aa8 r)),[])
theorem XD (d:Nat) {l:List ak} {r:oQ} (h:xZ l=some r):Spec (aB aH (d+3)) 112 [(dD l)] [] (HZ l r).1 (HZ l r).2:=by
 unfold xZ at h
 exact aX nB awV h (.z 2 [.slice none 4 0 0 true] <| .z 5 [.agg [.slice none 4 0 0 true]] <| .z 3 [.slice none 4 0 0 true] <| .st none <| .bd λx8 q8=>Lp [none,none,none,none] [Tw,Tw,Tw,Tw] [.slice none 4 0 0 true,.undef,.undef,.undef] (Rv (d+0) q8) <| .st none <| Fn Fo [.agg [.slice none 4 0 0 true]] none)
def mD (aS:aA):Option (aT) :=
 (FH aS.Pairs).bind λ(x1:uJ)=>(xZ aS.dX).bind λ(x2:oQ)=>some (⟨x1,x2,aS.eY,aS.Epoch⟩:aT)
def JU (aS:aA) (r:aT):AV×WH:=((.ptr (some (0,0))),[(some (.cells (bN r) false false))])
theorem FI (d:Nat) {aS:aA} {r:aT} (h:mD aS=some r):Spec (aB aH (d+4)) 81 [(.agg (bI aS))] [] (JU aS r).1 (JU aS r).2:=by
 unfold mD at h
 exact aX nB ayN h (.bd λx1 q1=>Cl [] Fo [.slice none 2 0 0 true] (aes (d+0) q1) <| .er <| .ob (rfl:@Eq (Option AV) (some (dD aS.dX)) (some (dD aS.dX))) <| .bd λx2 q2=>Cl [] Fo [.slice none 4 0 0 true] (XD (d+0) q2) <| Fn Fo [] none)
def kT (dL:aT) (client:Int) (s3:Int):List AV×WH:=([(.ptr (some (0,1))),(.int .i64 client),(.ptr (some (1,0))),(.int .i64 s3)],[(some (.cells (bN dL) false false)),(some (.cells (bM (⟨0,0,(⟨0,([]:List UInt8)⟩:aD)⟩:ak)) false false))])
def ou (dL:aT) (client:Int):ak⊕Unit→Ex×Fast×WH:=fun
 | .inl e=>(.ret,[(4,(.ptr (some (1,0)))),(5,(.bool true))],[(some (.cells (bN dL) false false)),(some (.cells (bM e) false false))])
 | .inr e=>((.exit 0),[(4,(.ptr (some (1,0))))],[(some (.cells (bN dL) false false)),(some (.cells (bM (⟨0,0,(⟨0,([]:List UInt8)⟩:aD)⟩:ak)) false false))])
abbrev I7 (dL:aT) (client:Int):=dx [0,1,4,6] (kT dL client) (ou dL client)
def jw (dL:aT) (client:Int) (s3:Int):Option ((Int)⊕(ak⊕Unit)) :=
 cond (decide (s3 < (dL.S_.L.length:Int))) ((bO dL.S_.L s3).bind λ(x4:ak)=>cond (x4.Client==client) ((bO dL.S_.L s3).bind λ(x5:ak)=>some (.inr (.inl x5))) (some (.inl (IntKind.i64.wrap (s3+1))))) (some (.inr (.inr ())))
def sZ (dL:aT) (client:Int) (s3:Int):Option (ak⊕Unit):=bT (jw dL client) KK s3
theorem JV (d:Nat) {dL:aT} {client:Int} {s3:Int} {r:(Int)⊕(ak⊕Unit)} (h:jw dL client s3=some r):bJ (aU (aB aH (d+0)) KK 34 Tv) 1 (jg [0,1,4,6] (kT dL client s3)) (I7 dL client r):=by
 unfold jw at h
 exact bA nB Zz h (.br 13 (λ_=>.bd λx4 q4=>Ix bS 21 q4 <| .br 25 (λ_=>.bd λx5 q5=>Ix bS 31 q5 <| .st none <| E0 [4,5]) λ_=>E0 [0,1,4,6]) λ_=>E0 [4])
theorem zH (d:Nat) {dL:aT} {client:Int} {s3:Int} {r:ak⊕Unit} (h:sZ dL client s3=some r):bJ (eu (aU (aB aH (d+0)) KK 34 Tv) [0,1,4,6] KK) 1 (jg [0,1,4,6] (kT dL client s3)) (ou dL client r) :=
 bY (st:=kT dL client) (fin:=ou dL client) (step:=jw dL client) (λe=>by rcases e with e | e<;>(intro h;cases h)) (λs x h=>JV d h) KK s3 r h
def kE (client:Int) (dL:aT):Option (ak×Bool) :=
 (sZ dL client 0).bind λ(x6:ak⊕Unit)=>cond (jI x6) (some ((CV x6),true)) (some ((⟨0,0,(⟨0,([]:List UInt8)⟩:aD)⟩:ak),false))
def Ai (client:Int) (dL:aT) (r:ak×Bool):AV×WH:=((.tuple [(.agg (bM r.1)),(.bool r.2)]),[(some (.cells (bN dL) false false))])
theorem Db (d:Nat) {client:Int} {dL:aT} {r:ak×Bool} (h:kE client dL=some r):Spec (aB aH (d+1)) 113 [(.ptr (some (0,1))),(.int .i64 client)] [(some (.cells (bN dL) false false))] (Ai client dL r).1 (Ai client dL r).2:=by
 unfold kE at h
 exact aX nB au8 h (.bd λx6 q6=>.ite (λDW=>Lp [none,none,none,none] [] [] (jA (il DW) (zH (d+0) q6)) <| Fn Fo [] none) λDW=>Lp [none,none,none,none] [] [] (jA (zy DW) (zH (d+0) q6)) <| .st none <| Fn Fo [] none)
def nT (t:aT) (key:List UInt8) (s3:Int):List AV×WH:=([(.ptr (some (0,0))),(.str key),(.int .i64 s3)],[(some (.cells (bN t) false false))])
def rQ (t:aT) (key:List UInt8):(Int×Bool)⊕Unit→Ex×Fast×WH:=fun
 | .inl e=>(.ret,[(4,(.int .i64 e.1)),(5,(.bool e.2))],[(some (.cells (bN t) false false))])
 | .inr e=>((.exit 0),[(0,(.ptr (some (0,0))))],[(some (.cells (bN t) false false))])
abbrev MQ (t:aT) (key:List UInt8):=dx [0,1,6] (nT t key) (rQ t key)
def o_ (t:aT) (key:List UInt8) (s3:Int):Option ((Int)⊕((Int×Bool)⊕Unit)) :=
 cond (decide (s3 < (t.T.L.length:Int))) ((bO t.T.L s3).bind λ(x4:au)=>cond (!(Op.bytesLess x4.Key key)) ((bO t.T.L s3).bind λ(x5:au)=>some (.inr (.inl (s3,(x5.Key==key))))) (some (.inl (IntKind.i64.wrap (s3+1))))) (some (.inr (.inr ())))
def FJ (t:aT) (key:List UInt8) (s3:Int):Option ((Int×Bool)⊕Unit):=bT (o_ t key) KK s3
theorem NZ (d:Nat) {t:aT} {key:List UInt8} {s3:Int} {r:(Int)⊕((Int×Bool)⊕Unit)} (h:o_ t key s3=some r):bJ (aU (aB aH (d+0)) KK 42 TA) 1 (jg [0,1,6] (nT t key s3)) (MQ t key r):=by
 unfold o_ at h
 exact bA nB ZE h (.br 13 (λ_=>.bd λx4 q4=>Ix aQ 21 q4 <| .br 25 (λ_=>.bd λx5 q5=>Ix aQ 32 q5 <| E0 [4,5]) λ_=>E0 [0,1,6]) λ_=>E0 [0])
theorem Dc (d:Nat) {t:aT} {key:List UInt8} {s3:Int} {r:(Int×Bool)⊕Unit} (h:FJ t key s3=some r):bJ (eu (aU (aB aH (d+0)) KK 42 TA) [0,1,6] KK) 1 (jg [0,1,6] (nT t key s3)) (rQ t key r) :=
 bY (st:=nT t key) (fin:=rQ t key) (step:=o_ t key) (λe=>by rcases e with e | e<;>(intro h;cases h)) (λs x h=>NZ d h) KK s3 r h
def yF (key:List UInt8) (t:aT):Option (Int×Bool) :=
 (FJ t key 0).bind λ(x6:(Int×Bool)⊕Unit)=>cond (jI x6) (some ((CV x6).1,(CV x6).2)) (some ((t.T.L.length:Int),false))
def Ep (key:List UInt8) (t:aT) (r:Int×Bool):AV×WH:=((.tuple [(.int .i64 r.1),(.bool r.2)]),[(some (.cells (bN t) false false))])
theorem TK (d:Nat) {key:List UInt8} {t:aT} {r:Int×Bool} (h:yF key t=some r):Spec (aB aH (d+1)) 134 [(.ptr (some (0,0))),(.str key)] [(some (.cells (bN t) false false))] (Ep key t r).1 (Ep key t r).2:=by
 unfold yF at h
 exact aX nB avb h (.bd λx6 q6=>.ite (λDW=>Lp [none,none,none] [] [] (jA (il DW) (Dc (d+0) q6)) <| Fn Fo [] none) λDW=>Lp [none,none,none] [] [] (jA (zy DW) (Dc (d+0) q6)) <| Fn Fo [] none)
abbrev PZ (x2:Int×Bool) (t:aT) (o:bD):Fast×WH:=([(0,(.ptr (some (0,0)))),(3,(.ptr (some (1,0)))),(4,(.ptr (some (2,0)))),(5,(.int .i64 x2.1)),(6,(.bool x2.2))],[(some (.cells (bN t) false false)),(some (.cells (fQ o) false false)),(some (.cells (dQ (⟨0,([]:List UInt8)⟩:aD)) false false))])
def N7 (x2:Int×Bool) (t:aT) (o:bD):Unit⊕Unit→Ex×Fast×WH:=fun
 | .inl e=>(.ret,[(4,(.ptr (some (1,0))))],[(some (.cells (bN t) false false)),(some (.cells (dQ (⟨5,([]:List UInt8)⟩:aD)) false false))])
 | .inr e=>(.normal,[(0,(.ptr (some (0,0)))),(3,(.ptr (some (1,0)))),(4,(.ptr (some (2,0)))),(5,(.int .i64 x2.1)),(6,(.bool x2.2))],[(some (.cells (bN t) false false)),(some (.cells (fQ o) false false)),(some (.cells (dQ (⟨0,([]:List UInt8)⟩:aD)) false false))])
def vZ (x2:Int×Bool) (t:aT) (o:bD):Option (Unit⊕Unit) :=
 cond (!x2.2) (cond (decide ((t.T.L.length:Int)≥8)) (some (.inl ())) (some (.inr ()))) (some (.inr ()))
theorem FK (d:Nat) {x2:Int×Bool} {t:aT} {o:bD} {r:Unit⊕Unit} (h:vZ x2 t o=some r):bJ (aU (aB aH (d+0)) KK 147 Ab) 1 (PZ x2 t o) (N7 x2 t o r):=by
 unfold vZ at h
 exact bA nB C9 h (.br 40 (λ_=>.br 47 (λ_=>.st none <| E0 [4]) λ_=>E0 [0,3,4,5,6]) λ_=>E0 [0,3,4,5,6])
abbrev P5 (x2:Int×Bool) (x6:List au) (o:bD) (t:aT):Fast×WH:=([(0,(.ptr (some (0,0)))),(4,(.ptr (some (1,0)))),(5,(.int .i64 x2.1)),(6,(.bool x2.2)),(7,(.acc 2 0 2 (x6++[(⟨o.Key,o.Value⟩:au)]).length true))],[(some (.cells (bN t) false false)),(some (.cells (dQ (⟨0,([]:List UInt8)⟩:aD)) false false)),(some (.cells (aC (x6++[(⟨o.Key,o.Value⟩:au)])) false true))])
def N8 (x2:Int×Bool) (x6:List au) (o:bD) (t:aT):Int→Ex×Fast×WH:=λe=>(.normal,[(0,(.ptr (some (0,0)))),(4,(.ptr (some (1,0)))),(5,(.int .i64 e)),(7,(.acc 2 0 2 (x6++[(⟨o.Key,o.Value⟩:au)]).length true))],[(some (.cells (bN t) false false)),(some (.cells (dQ (⟨0,([]:List UInt8)⟩:aD)) false false)),(some (.cells (aC (x6++[(⟨o.Key,o.Value⟩:au)])) false true))])
def wh (x2:Int×Bool) (x6:List au) (o:bD) (t:aT):Option (Int) :=
 cond x2.2 (some (IntKind.i64.wrap (x2.1+1))) (some x2.1)
theorem Rw (d:Nat) {x2:Int×Bool} {x6:List au} {o:bD} {t:aT} {r:Int} (h:wh x2 x6 o t=some r):bJ (aU (aB aH (d+0)) KK 147 uM) 1 (P5 x2 x6 o t) (N8 x2 x6 o t r):=by
 unfold wh at h
 exact bA nB zB h (.br 65 (λ_=>E1 [0,4,5,7] [none,none,none,none] [] [.undef,.undef,.undef,.slice none 2 0 0 true]) λ_=>E1 [0,4,5,7] [none,none,none,none] [] [.undef,.undef,.undef,.slice none 2 0 0 true])
def yc (o:bD) (t:aT):Option (aD×aT) :=
 (yV o).bind λ(x1:Bool)=>cond (!x1) (some ((⟨1,([]:List UInt8)⟩:aD),t)) ((yF o.Key t).bind λ(x2:Int×Bool)=>cond (o.Kind==1) (cond (!x2.2) (some ((⟨4,([]:List UInt8)⟩:aD),t)) ((bO t.T.L x2.1).bind λ(x3:au)=>some ((⟨0,x3.Value⟩:aD),t))) (cond (o.Kind==2) ((vZ x2 t o).bind λ(x4:Unit⊕Unit)=>cond (jI x4) (some ((⟨5,([]:List UInt8)⟩:aD),t)) ((LQ t.T.L 0 x2.1).bind λ(x6:List au)=>gd (dh 32 x6.length) (gd (dh 32 (x6++[(⟨o.Key,o.Value⟩:au)]).length) ((wh x2 x6 o t).bind λ(x9:Int)=>(LQ t.T.L x9 t.T.L.length).bind λ(x10:List au)=>gd (dh 32 ((x6++[(⟨o.Key,o.Value⟩:au)])++x10).length) (some ((⟨0,([]:List UInt8)⟩:aD),(⟨(⟨((x6++[(⟨o.Key,o.Value⟩:au)])++x10)⟩:uJ),t.S_,t.ID,t.Epoch⟩:aT))))))) (cond (o.Kind==3) (cond (!x2.2) (some ((⟨4,([]:List UInt8)⟩:aD),t)) ((LQ t.T.L 0 x2.1).bind λ(cu:List au)=>gd (dh 32 cu.length) ((LQ t.T.L (IntKind.i64.wrap (x2.1+1)) t.T.L.length).bind λ(lH:List au)=>gd (dh 32 (cu++lH).length) (some ((⟨0,([]:List UInt8)⟩:aD),(⟨(⟨(cu++lH)⟩:uJ),t.S_,t.ID,t.Epoch⟩:aT)))))) (cond (!x2.2) (some ((⟨4,([]:List UInt8)⟩:aD),t)) ((bO t.T.L x2.1).bind λ(yY:au)=>cond (!(yY.Value==o.Old)) ((bO t.T.L x2.1).bind λ(iU:au)=>some ((⟨6,iU.Value⟩:aD),t)) (gd (dh 32 t.T.L.length) ((bO t.T.L x2.1).bind λ(om:au)=>some ((⟨0,([]:List UInt8)⟩:aD),(⟨(⟨(t.T.L.set x2.1.toNat (⟨om.Key,o.Value⟩:au))⟩:uJ),t.S_,t.ID,t.Epoch⟩:aT)))))))))
def lJ (o:bD) (t:aT) (r:aD×aT):AV×WH:=((.agg (dQ r.1)),[(some (.cells (bN r.2) false false))])
theorem XE (d:Nat) {o:bD} {t:aT} {r:aD×aT} (h:yc o t=some r):Spec (aB aH (d+2)) 114 [(.ptr (some (0,0))),(.agg (fQ o))] [(some (.cells (bN t) false false))] (lJ o t r).1 (lJ o t r).2:=by
 unfold yc at h
 exact aX nB au9 h (.bd λx1 q1=>iA (K4 (d+0) q1) <| .br 11 (λ_=>.st none <| Fn Fo [] Fo) λ_=>.bd λx2 q2=>Cl [] Fo [] (TK (d+0) q2) <| .br 22 (λ_=>.br 25 (λ_=>.st none <| Fn Fo [] Fo) λ_=>.bd λx3 q3=>Ix aQ 32 q3 <| .st none <| Fn Fo [] Fo) λ_=>.br 36 (λ_=>.bd λx4 q4=>.ite (λhb5=>Jn [0,3,4,5,6] [none,none,none,none,none] [] [] (jA (il hb5) (FK (d+1) q4)) <| Fn Fo [] Fo) λhb5=>Jn [0,3,4,5,6] [none,none,none,none,none] [] [] (jA (zy hb5) (FK (d+1) q4)) <| .bd λx6 q6=>Si aQ 55 q6 <| .gd λq7=>Ap0 aQ 56 q7 <| .gd λq8=>Ap aQ 64 q8 <| .bd λx9 q9=>Jn [0,4,5,6,7] [none,none,none,none,none] [] [.undef,.undef,.undef,.undef,.slice none 2 0 0 true] (Rw (d+1) q9) <| .bd λx10 KV=>Sl aQ 75 KV <| .gd λIV=>Ap aQ 76 IV <| .st none <| .st none <| Fn Fo [] Fo) λ_=>.br 80 (λ_=>.br 83 (λ_=>.st none <| Fn Fo [] Fo) λ_=>.bd λcu KZ=>Si aQ 92 KZ <| .gd λXA=>Ap0 aQ 93 XA <| .er <| .ob (rfl:@Eq (Option AV) (some (bQ t.T.L)) (some (bQ t.T.L))) <| .bd λlH LW=>Sl aQ 100 LW <| .gd λKC=>Ap aQ 101 KC <| .st none <| .st none <| Fn Fo [] Fo) λ_=>.br 105 (λ_=>.st none <| Fn Fo [] Fo) λ_=>.bd λyY q16=>Ix aQ 115 q16 <| .br 109 (λ_=>.bd λiU GH=>Ix aQ 126 GH <| .st none <| Fn Fo [] Fo) λ_=>.gd λVk=>Ap0 aQ 135 Vk <| .bd λom QG=>Ia aQ 140 4 QG <| .st (some (aC (t.T.L.set x2.1.toNat (⟨om.Key,o.Value⟩:au)))) <| .ob (DT (o:=1) aQ QG rfl:U2 (aC t.T.L) (0+x2.1.toNat * 2+1) [(.str o.Value)]=some (aC (t.T.L.set x2.1.toNat (⟨om.Key,o.Value⟩:au)))) <| .st none <| .st none <| .xP (.fin (some false) [] (some false)) _ (λr=>@Eq AV (.agg (dQ (⟨0,([]:List UInt8)⟩:aD))) (lJ o t r).1∧@Eq WH [(some (.cells [(.list 2 t.T.L.length (aC (t.T.L.set x2.1.toNat (⟨om.Key,o.Value⟩:au))) false),(dD t.S_.L),(.int .i64 t.ID),(.int .i64 t.Epoch)] false false))] (lJ o t r).2) (by show _∧_;(try rw [show AV.list 2 t.T.L.length (aC (t.T.L.set x2.1.toNat (⟨om.Key,o.Value⟩:au))) false=bQ (t.T.L.set x2.1.toNat (⟨om.Key,o.Value⟩:au)) from by simp only [bQ,List.length_set]]);refine ⟨?_, ?_⟩<;>first | rfl | (simp only [lJ,List.length_set,List.length_append,List.length_replicate,List.length_cons,List.length_nil,List.length_take,List.length_drop,Nat.add_zero,Nat.zero_add];done) | simp [lJ]))
end Go.Proofs.YtohoggieaanllaaGreat
