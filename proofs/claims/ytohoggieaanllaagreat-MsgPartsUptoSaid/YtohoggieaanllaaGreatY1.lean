import Derived.Test.YtohoggieaanllaaGreatXt
import Derived.Test.YtohoggieaanllaaGreatXs
set_option linter.all false
set_option maxRecDepth 100000
namespace Go.Proofs.YtohoggieaanllaaGreat
def bf (n:Int) (m:Int):Option (Int) :=
 (aiA .i64 n m).bind λ(x1:Int)=>cond (decide (x1 < 0)) (some (IntKind.i64.wrap (x1+m))) (some x1)
def PN (n:Int) (m:Int) (r:Int):AV×WH:=((.int .i64 r),[])
theorem bA (d:Nat) {n:Int} {m:Int} {r:Int} (h:bf n m=some r):Spec (aG aH (d+1)) 16 [(.int .i64 n),(.int .i64 m)] [] (PN n m r).1 (PN n m r).2:=by
 unfold bf at h
 exact aW nB anR h (.bd λx1 q1=>.v 7 (.int .i64 x1) <| .ob (alA q1:Eb .rem .i64 n m=some (.int .i64 x1)) <| .br 9 (λ_=>Fn Fo [] none) λ_=>Fn Fo [] none)
def ug (n:Int):Option (List UInt8) :=
 (bf n 6).bind λ(x1:Int)=>(bW ([([]:List UInt8),[49],[50],[116,104,114,101,101],[115,105,120,116,101,101,110,32,98,121,116,101,115,32,105,116],[52]]:List (List UInt8)) x1).bind λ(x2:List UInt8)=>some x2
def MV (n:Int) (r:List UInt8):AV×WH:=((.str r),[])
theorem FL (d:Nat) {n:Int} {r:List UInt8} (h:ug n=some r):Spec (aG aH (d+2)) 32 [(.int .i64 n)] [] (MV n r).1 (MV n r).2:=by
 unfold ug at h
 exact aW nB anU h (.bd λx1 q1=>iF (bA (d+0) q1) <| .bd λx2 q2=>.v 6 (.str x2) <| .ob (ak1 R_S q2:wP (.index false 6 1 (.c (.agg [(.str ([]:List UInt8)),(.str [49]),(.str [50]),(.str ([116,104,114,101,101])),(.str ([115,105,120,116,101,101,110,32,98,121,116,101,115,32,105,116])),(.str [52])])) (.c (.int .i64 x1)))=some (.str x2)) <| Fn Fo [] none)
abbrev Xq (x1:Int) (n:Int):Fast×WH:=([(0,(.int .i64 n)),(4,(.int .i64 x1))],[])
def Us (x1:Int) (n:Int):Bool→Ex×Fast×WH:=λe=>(.normal,[(0,(.int .i64 n)),(4,(.int .i64 x1)),(5,(.bool e))],[])
def Eu (x1:Int) (n:Int):Option (Bool) :=
 cond (x1==0) (some true) (cond (x1==1) (some true) (some (x1==2)))
theorem Zv (d:Nat) {x1:Int} {n:Int} {r:Bool} (h:Eu x1 n=some r):bX (aU (aG aH (d+0)) KK 35 Sg) 0 (Xq x1 n) (Us x1 n r):=by
 unfold Eu at h
 exact bE nB Un h (.br 5 (λ_=>E0 [0,4,5]) λ_=>.br 5 (λ_=>E0 [0,4,5]) λ_=>E0 [0,4,5])
def wD (n:Int):Option (Int) :=
 (bf n 7).bind λ(x1:Int)=>(Eu x1 n).bind λ(x2:Bool)=>cond x2 ((bf (IntKind.i64.wrap (Int.tdiv n 7)) 40).bind λ(x3:Int)=>some x3) (cond (x1==3) ((bf (IntKind.i64.wrap (Int.tdiv n 7)) 63).bind λ(x4:Int)=>(aeS .i64 1 (IntKind.u64.wrap x4)).bind λ(x5:Int)=>(bf (IntKind.i64.wrap (Int.tdiv n 441)) 3).bind λ(x6:Int)=>some (IntKind.i64.wrap (x5 - x6))) (cond (x1==4) ((bf (IntKind.i64.wrap (Int.tdiv n 7)) 3).bind λ(x7:Int)=>some (IntKind.i64.wrap (4611686018427387903 - x7))) (cond (x1==5) ((bf (IntKind.i64.wrap (Int.tdiv n 7)) 1000).bind λ(x8:Int)=>some x8) (some n))))
def SC (n:Int) (r:Int):AV×WH:=((.int .i64 r),[])
theorem uh (d:Nat) {n:Int} {r:Int} (h:wD n=some r):Spec (aG aH (d+2)) 37 [(.int .i64 n)] [] (SC n r).1 (SC n r).2:=by
 unfold wD at h
 exact aW nB anX h (.bd λx1 q1=>iF (bA (d+0) q1) <| .bd λx2 q2=>Jn [0,4] [none,none] [] [] (Zv (d+1) q2) <| .br 5 (λ_=>.bd λx3 q3=>iF (bA (d+0) q3) <| Fn Fo [] none) λ_=>.br 12 (λ_=>.bd λx4 q4=>iF (bA (d+0) q4) <| .bd λx5 q5=>.v 18 (.int .i64 x5) <| .ob (alD q5:Qb .shl (.int .i64 1) (.int .u64 (IntKind.u64.wrap x4))=some (.int .i64 x5)) <| .bd λx6 q6=>iF (bA (d+0) q6) <| Fn Fo [] none) λ_=>.br 23 (λ_=>.bd λx7 q7=>iF (bA (d+0) q7) <| Fn Fo [] none) λ_=>.br 29 (λ_=>.bd λx8 q8=>iF (bA (d+0) q8) <| Fn Fo [] none) λ_=>Fn Fo [] none)
def SE (n:Int):Option (Int) :=
 (wD n).bind λ(x1:Int)=>some (if (if (4611686018427387903:Int) < x1 then 4611686018427387903 else x1) > 0 then (if (4611686018427387903:Int) < x1 then 4611686018427387903 else x1) else 0)
def SF (n:Int) (r:Int):AV×WH:=((.int .i64 r),[])
theorem ahz (d:Nat) {n:Int} {r:Int} (h:SE n=some r):Spec (aG aH (d+3)) 109 [(.int .i64 n)] [] (SF n r).1 (SF n r).2:=by
 unfold SE at h
 exact aW nB amE h (.bd λx1 q1=>iF (uh (d+0) q1) <| Fn Fo [] none)
def Ev (aR:bD):Option (av) :=
 (bf aR.Inc 4).bind λ(x1:Int)=>(bf aR.Status 3).bind λ(x2:Int)=>(bf aR.nV 5).bind λ(x3:Int)=>(bf aR.Load 12).bind λ(x4:Int)=>(bf aR.Inc 19).bind λ(x5:Int)=>cond (x5==18) ((SE aR.nV).bind λ(x6:Int)=>some (⟨x1,x2,x6,x4,aR.dw⟩:av)) (some (⟨x1,x2,x3,x4,aR.dw⟩:av))
def MW (aR:bD) (r:av):AV×WH:=((.agg (vE r)),[])
theorem SG (d:Nat) {aR:bD} {r:av} (h:Ev aR=some r):Spec (aG aH (d+4)) 76 [(.agg (uf aR))] [] (MW aR r).1 (MW aR r).2:=by
 unfold Ev at h
 exact aW nB aoh h (.bd λx1 q1=>iF (bA (d+2) q1) <| .bd λx2 q2=>iF (bA (d+2) q2) <| .bd λx3 q3=>iF (bA (d+2) q3) <| .bd λx4 q4=>iF (bA (d+2) q4) <| .st none <| .bd λx5 q5=>iF (bA (d+2) q5) <| .br 22 (λ_=>.bd λx6 q6=>iF (ahz (d+0) q6) <| .st none <| .st none <| Fn Fo [] none) λ_=>.st none <| Fn Fo [] none)
abbrev SH (s11:Int×List av) (l:List bD) (n:Int):Fast×WH:=([(0,(aV l)),(1,(.int .i64 n)),(5,(.acc 0 0 5 s11.2.length true)),(6,(.int .i64 s11.1))],[(some (.cells (bn s11.2) false true))])
def Qj (s11:Int×List av) (l:List bD) (n:Int):Unit⊕Unit→Ex×Fast×WH:=fun
 | .inl e=>(.normal,[(0,(aV l)),(1,(.int .i64 n)),(5,(.acc 0 0 5 s11.2.length true)),(6,(.int .i64 s11.1))],[(some (.cells (bn s11.2) false true))])
 | .inr e=>((.exit 0),[(5,(.acc 0 0 5 s11.2.length true))],[(some (.cells (bn s11.2) false true))])
def CV (s11:Int×List av) (l:List bD) (n:Int):Option (Unit⊕Unit) :=
 cond (decide (s11.1 < (l.length:Int))) (cond (decide (s11.1 < n)) (some (.inl ())) (some (.inr ()))) (some (.inr ()))
theorem KA (d:Nat) {s11:Int×List av} {l:List bD} {n:Int} {r:Unit⊕Unit} (h:CV s11 l n=some r):bX (aU (aG aH (d+0)) KK 27 FJ) 0 (SH s11 l n) (Qj s11 l n r):=by
 unfold CV at h
 exact bE nB Gh h (.br 11 (λ_=>.br 15 (λ_=>E1 [0,1,5,6] [none,none,none,none] [] [.slice none 5 0 0 true,.undef,.slice none 5 0 0 true,.undef]) λ_=>E1 [5] [none] [] [.slice none 5 0 0 true]) λ_=>E1 [5] [none] [] [.slice none 5 0 0 true])
def wE (l:List bD) (n:Int) (s11:Int×List av):List AV×WH:=([(aV l),(.int .i64 n),(.acc 0 0 5 s11.2.length true),(.int .i64 s11.1)],[(some (.cells (bn s11.2) false true))])
def zN (l:List bD) (n:Int):(List av)→Ex×Fast×WH:=λe=>((.exit 0),[(5,(.acc 0 0 5 e.length true))],[(some (.cells (bn e) false true))])
abbrev SI (l:List bD) (n:Int):=eY [0,1,5,6] (wE l n) (zN l n)
def uj (l:List bD) (n:Int) (s11:Int×List av):Option ((Int×List av)⊕((List av))) :=
 (CV s11 l n).bind λ(dI:Unit⊕Unit)=>cond (mW dI) ((bW l s11.1).bind λ(kR:bD)=>(Ev kR).bind λ(bR:av)=>gd (dB 40 (s11.2++[bR]).length) (some (.inl ((IntKind.i64.wrap (s11.1+1)),(s11.2++[bR]))))) (some (.inr s11.2))
def Ih (l:List bD) (n:Int) (s11:Int×List av):Option ((List av)):=eG (uj l n) KK s11
theorem Ut (d:Nat) {l:List bD} {n:Int} {s11:Int×List av} {r:(Int×List av)⊕((List av))} (h:uj l n s11=some r):bX (aU (aG aH (d+4)) KK 27 Sc) 0 (mQ [0,1,5,6] (wE l n s11)) (SI l n r):=by
 unfold uj at h
 exact bE nB Vy h (.bd λdI Ii=>.ite (λLh=>Jn [0,1,5,6] [none,none,none,none] [] [.slice none 5 0 0 true,.undef,.slice none 5 0 0 true,.undef] (nA (il Lh) (KA (d+4) Ii)) <| .bd λkR NJ=>Ix Dr 21 NJ <| .bd λbR Rf=>iF (SG (d+0) Rf) <| .gd λq16=>Ap jK 25 q16 <| E1 [0,1,5,6] [none,none,none,none] [] [.slice none 5 0 0 true,.undef,.slice none 5 0 0 true,.undef]) λLh=>Jn [0,1,5,6] [none,none,none,none] [] [.slice none 5 0 0 true,.undef,.slice none 5 0 0 true,.undef] (nA (D_ Lh) (KA (d+4) Ii)) <| E1 [5] [none] [] [.slice none 5 0 0 true])
theorem Uu (d:Nat) {l:List bD} {n:Int} {s11:Int×List av} {r:(List av)} (h:Ih l n s11=some r):bX (gq (aU (aG aH (d+4)) KK 27 Sc) [0,1,5,6] KK) 0 (mQ [0,1,5,6] (wE l n s11)) (zN l n r) :=
 dL (st:=wE l n) (fin:=zN l n) (step:=uj l n) (λe=>by (intro h;cases h)) (λs x h=>Ut d h) KK s11 r h
def Ij (l:List bD) (n:Int):Option (List av) :=
 (Ih l n (0,[])).bind λ(ny:(List av))=>some ny
def MX (l:List bD) (n:Int) (r:List av):AV×WH:=((dK r),[])
theorem abr (d:Nat) {l:List bD} {n:Int} {r:List av} (h:Ij l n=some r):Spec (aG aH (d+5)) 33 [(aV l),(.int .i64 n)] [] (MX l n r).1 (MX l n r).2:=by
 unfold Ij at h
 exact aW nB amu h (.z 4 [.slice none 5 0 0 true] <| .z 5 [.slice none 5 0 0 true] <| .bd λny PO=>Lp [none,none,Tw,none] [] [.slice none 5 0 0 true,.undef,.slice none 5 0 0 true,.undef] (Uu (d+0) PO) <| Fn Fo [.slice none 5 0 0 true] none)
def FM (n:Int):Option (List UInt8) :=
 (bf n 16).bind λ(x1:Int)=>(bW ([[97],[98],[99],[100],[101],[102],[103],[104],[107,97],[107,98],[107,99],[107,100],[120],[121],[122,122],[101,105,103,104,116,107,101,121]]:List (List UInt8)) x1).bind λ(x2:List UInt8)=>some x2
def SK (n:Int) (r:List UInt8):AV×WH:=((.str r),[])
theorem SL (d:Nat) {n:Int} {r:List UInt8} (h:FM n=some r):Spec (aG aH (d+2)) 84 [(.int .i64 n)] [] (SK n r).1 (SK n r).2:=by
 unfold FM at h
 exact aW nB aoo h (.bd λx1 q1=>iF (bA (d+0) q1) <| .bd λx2 q2=>.v 6 (.str x2) <| .ob (ak1 R_S q2:wP (.index false 16 1 (.c (.agg [(.str [97]),(.str [98]),(.str [99]),(.str [100]),(.str [101]),(.str [102]),(.str [103]),(.str [104]),(.str ([107,97])),(.str ([107,98])),(.str ([107,99])),(.str ([107,100])),(.str [120]),(.str [121]),(.str ([122,122])),(.str ([101,105,103,104,116,107,101,121]))])) (.c (.int .i64 x1)))=some (.str x2)) <| Fn Fo [] none)
abbrev Zw (x1:Int) (value:Int) (old:Int) (x2:List UInt8):Fast×WH:=([(2,(.int .i64 value)),(3,(.int .i64 old)),(8,(.ptr (some (0,0)))),(9,(.ptr (some (1,0))))],[(some (.cells (fF (⟨0,([]:List UInt8),([]:List UInt8),([]:List UInt8)⟩:aY)) false false)),(some (.cells (fF (⟨(IntKind.i64.wrap (1+x1)),x2,([]:List UInt8),([]:List UInt8)⟩:aY)) false false))])
def Xr (x1:Int) (value:Int) (old:Int) (x2:List UInt8):Bool→Ex×Fast×WH:=λe=>(.normal,[(2,(.int .i64 value)),(3,(.int .i64 old)),(8,(.ptr (some (0,0)))),(9,(.ptr (some (1,0)))),(23,(.bool e))],[(some (.cells (fF (⟨0,([]:List UInt8),([]:List UInt8),([]:List UInt8)⟩:aY)) false false)),(some (.cells (fF (⟨(IntKind.i64.wrap (1+x1)),x2,([]:List UInt8),([]:List UInt8)⟩:aY)) false false))])
def Ik (x1:Int) (value:Int) (old:Int) (x2:List UInt8):Option (Bool) :=
 cond ((IntKind.i64.wrap (1+x1))==2) (some true) (some ((IntKind.i64.wrap (1+x1))==4))
theorem abt (d:Nat) {x1:Int} {value:Int} {old:Int} {x2:List UInt8} {r:Bool} (h:Ik x1 value old x2=some r):bX (aU (aG aH (d+0)) KK 34 VD) 0 (Zw x1 value old x2) (Xr x1 value old x2 r):=by
 unfold Ik at h
 exact bE nB Xa h (.br 19 (λ_=>E0 [2,3,8,9,23]) λ_=>E0 [2,3,8,9,23])
abbrev Zx (x1:Int) (value:Int) (old:Int) (x2:List UInt8):Fast×WH:=([(2,(.int .i64 value)),(3,(.int .i64 old)),(8,(.ptr (some (0,0)))),(9,(.ptr (some (1,0))))],[(some (.cells (fF (⟨0,([]:List UInt8),([]:List UInt8),([]:List UInt8)⟩:aY)) false false)),(some (.cells (fF (⟨(IntKind.i64.wrap (1+x1)),x2,([]:List UInt8),([]:List UInt8)⟩:aY)) false false))])
def Xt (x1:Int) (value:Int) (old:Int) (x2:List UInt8):aY→Ex×Fast×WH:=λe=>(.normal,[(3,(.int .i64 old)),(8,(.ptr (some (0,0)))),(9,(.ptr (some (1,0))))],[(some (.cells (fF (⟨0,([]:List UInt8),([]:List UInt8),([]:List UInt8)⟩:aY)) false false)),(some (.cells (fF e) false false))])
def Il (x1:Int) (value:Int) (old:Int) (x2:List UInt8):Option (aY) :=
 (Ik x1 value old x2).bind λ(x3:Bool)=>cond x3 ((ug value).bind λ(x4:List UInt8)=>some (⟨(IntKind.i64.wrap (1+x1)),x2,x4,([]:List UInt8)⟩:aY)) (some (⟨(IntKind.i64.wrap (1+x1)),x2,([]:List UInt8),([]:List UInt8)⟩:aY))
theorem abu (d:Nat) {x1:Int} {value:Int} {old:Int} {x2:List UInt8} {r:aY} (h:Il x1 value old x2=some r):bX (aU (aG aH (d+2)) KK 34 YP) 0 (Zx x1 value old x2) (Xt x1 value old x2 r):=by
 unfold Il at h
 exact bE nB YQ h (.bd λx3 q3=>Jn [2,3,8,9] [none,none,none,none] [] [] (abt (d+2) q3) <| .br 23 (λ_=>.bd λx4 q4=>iF (FL (d+0) q4) <| .st none <| E0 [3,8,9]) λ_=>E0 [3,8,9])
def SN (kind:Int) (key:Int) (value:Int) (old:Int):Option (aY) :=
 (bf kind 4).bind λ(x1:Int)=>(FM key).bind λ(x2:List UInt8)=>(Il x1 value old x2).bind λ(x5:aY)=>cond (x5.Kind==4) ((ug old).bind λ(x6:List UInt8)=>some (⟨x5.Kind,x5.Key,x5.Value,x6⟩:aY)) (some x5)
def V4 (kind:Int) (key:Int) (value:Int) (old:Int) (r:aY):AV×WH:=((.agg (fF r)),[])
theorem akC (d:Nat) {kind:Int} {key:Int} {value:Int} {old:Int} {r:aY} (h:SN kind key value old=some r):Spec (aG aH (d+3)) 77 [(.int .i64 kind),(.int .i64 key),(.int .i64 value),(.int .i64 old)] [] (V4 kind key value old r).1 (V4 kind key value old r).2:=by
 unfold SN at h
 exact aW nB aoi h (.bd λx1 q1=>iF (bA (d+1) q1) <| .bd λx2 q2=>iF (SL (d+0) q2) <| .st none <| .bd λx5 q5=>Jn [2,3,8,9] [none,none,none,none] [] [] (abu (d+0) q5) <| .br 29 (λ_=>.bd λx6 q6=>iF (FL (d+0) q6) <| .st none <| .st none <| Fn Fo [] none) λ_=>.st none <| Fn Fo [] none)
def CW (dA:List UInt8) (n:Int):Option (List UInt8) :=
 cond (decide ((dA.length:Int) > n)) ((Ku dA 0 n).bind λ(x1:List UInt8)=>some x1) (some dA)
def PS (dA:List UInt8) (n:Int) (r:List UInt8):AV×WH:=((.str r),[])
theorem V5 (d:Nat) {dA:List UInt8} {n:Int} {r:List UInt8} (h:CW dA n=some r):Spec (aG aH (d+1)) 78 [(.str dA),(.int .i64 n)] [] (PS dA n r).1 (PS dA n r).2:=by
 unfold CW at h
 exact aW nB aoj h (.br 8 (λ_=>.bd λx1 q1=>.v 11 (.str x1) <| .ob (aeU q1:wP (.l9 (.c (.str dA)) none (some (.c (.int .i64 n))))=some (.str x1)) <| Fn Fo [] none) λ_=>Fn Fo [] none)
def Dv (aR:bU):Option (aX) :=
 (bf aR.Client 4).bind λ(x1:Int)=>(bf aR.Seq 9).bind λ(x2:Int)=>(SN aR.Kind aR.Key aR.Value aR.Old).bind λ(x3:aY)=>(bf aR.pE 16).bind λ(x4:Int)=>cond (x4==10) ((CW aR.Text 12).bind λ(x5:List UInt8)=>some (⟨x1,(IntKind.i64.wrap (1+x2)),(⟨x3.Kind,x5,x3.Value,x3.Old⟩:aY)⟩:aX)) (cond (x4==11) ((CW aR.Text 20).bind λ(x6:List UInt8)=>some (⟨x1,(IntKind.i64.wrap (1+x2)),(⟨x3.Kind,x3.Key,x6,x3.Old⟩:aY)⟩:aX)) (cond (x4==12) ((bf (IntKind.i64.wrap (Int.tdiv aR.pE 16)) 8).bind λ(x7:Int)=>some (⟨x1,(IntKind.i64.wrap (1+x2)),(⟨(IntKind.i64.wrap (x7 - 1)),x3.Key,x3.Value,x3.Old⟩:aY)⟩:aX)) (cond (x4==13) ((bf (IntKind.i64.wrap (Int.tdiv aR.pE 16)) 9).bind λ(x8:Int)=>some (⟨(IntKind.i64.wrap (x8 - 2)),(IntKind.i64.wrap (1+x2)),x3⟩:aX)) (cond (x4==14) ((wD (IntKind.i64.wrap (Int.tdiv aR.pE 16))).bind λ(x9:Int)=>some (⟨x1,x9,x3⟩:aX)) (cond (x4==15) (some (⟨0,0,(⟨0,([]:List UInt8),([]:List UInt8),([]:List UInt8)⟩:aY)⟩:aX)) (some (⟨x1,(IntKind.i64.wrap (1+x2)),x3⟩:aX)))))))
def SQ (aR:bU) (r:aX):AV×WH:=((.agg (vF r)),[])
theorem MZ (d:Nat) {aR:bU} {r:aX} (h:Dv aR=some r):Spec (aG aH (d+4)) 34 [(.agg (Bj aR))] [] (SQ aR r).1 (SQ aR r).2:=by
 unfold Dv at h
 exact aW nB anV h (.bd λx1 q1=>iF (bA (d+2) q1) <| .bd λx2 q2=>iF (bA (d+2) q2) <| .bd λx3 q3=>iF (akC (d+0) q3) <| .st none <| .bd λx4 q4=>iF (bA (d+2) q4) <| .br 24 (λ_=>.bd λx5 q5=>iF (V5 (d+2) q5) <| .st none <| .st none <| Fn Fo [] none) λ_=>.br 31 (λ_=>.bd λx6 q6=>iF (V5 (d+2) q6) <| .st none <| .st none <| Fn Fo [] none) λ_=>.br 38 (λ_=>.bd λx7 q7=>iF (bA (d+2) q7) <| .st none <| .st none <| Fn Fo [] none) λ_=>.br 47 (λ_=>.bd λx8 q8=>iF (bA (d+2) q8) <| .st none <| .st none <| Fn Fo [] none) λ_=>.br 55 (λ_=>.bd λx9 q9=>iF (uh (d+1) q9) <| .st none <| .st none <| Fn Fo [] none) λ_=>.br 62 (λ_=>.st none <| .st none <| Fn Fo [] none) λ_=>.st none <| Fn Fo [] none)
def FN (p_r:aX):Option (Bool) :=
 some (p_r.Client==0&&(p_r.Seq==0&&(p_r.Op.Kind==0&&(p_r.Op.Key==([]:List UInt8)&&(p_r.Op.Value==([]:List UInt8)&&(p_r.Op.Old==([]:List UInt8)&&true))))))
def Im (p_r:aX) (r:Bool):AV×WH:=((.bool r),[])
theorem Xu (d:Nat) {p_r:aX} {r:Bool} (h:FN p_r=some r):Spec (aG aH (d+1)) 79 [(.agg (vF p_r))] [] (Im p_r r).1 (Im p_r r).2:=by
 unfold FN at h
 exact aW nB aok h (Fn Fo [] none)
abbrev Ot (o:aY):Fast×WH:=([(1,(.ptr (some (0,0))))],[(some (.cells (fF o) false false))])
def M4 (o:aY):Unit⊕Unit→Ex×Fast×WH:=fun
 | .inl e=>(.ret,[(2,(.bool false))],[])
 | .inr e=>(.normal,[(1,(.ptr (some (0,0))))],[(some (.cells (fF o) false false))])
def yP (o:aY):Option (Unit⊕Unit) :=
 cond (decide (o.Kind < 1)) (some (.inl ())) (cond (decide (o.Kind > 4)) (some (.inl ())) (cond (decide ((o.Key.length:Int) < 1)) (some (.inl ())) (cond (decide ((o.Key.length:Int) > 8)) (some (.inl ())) (cond (decide ((o.Value.length:Int) > 16)) (some (.inl ())) (cond (decide ((o.Old.length:Int) > 16)) (some (.inl ())) (some (.inr ())))))))
theorem Gl (d:Nat) {o:aY} {r:Unit⊕Unit} (h:yP o=some r):bX (aU (aG aH (d+0)) KK 58 Y0) 0 (Ot o) (M4 o r):=by
 unfold yP at h
 exact bE nB Y1 h (.br 6 (λ_=>E0 [2]) λ_=>.br 11 (λ_=>E0 [2]) λ_=>.br 17 (λ_=>E0 [2]) λ_=>.br 23 (λ_=>E0 [2]) λ_=>.br 29 (λ_=>E0 [2]) λ_=>.br 34 (λ_=>E0 [2]) λ_=>E0 [1])
def uZ (o:aY):Option (Bool) :=
 (yP o).bind λ(x1:Unit⊕Unit)=>cond (mW x1) (some false) (cond (o.Value==([]:List UInt8)) (cond (o.Old==([]:List UInt8)) (some true) (some (o.Kind==4))) (cond (o.Kind==2) (cond (o.Old==([]:List UInt8)) (some true) (some (o.Kind==4))) (cond (o.Kind==4) (cond (o.Old==([]:List UInt8)) (some true) (some (o.Kind==4))) (some false))))
def Io (o:aY) (r:Bool):AV×WH:=((.bool r),[])
theorem FP (d:Nat) {o:aY} {r:Bool} (h:uZ o=some r):Spec (aG aH (d+1)) 110 [(.agg (fF o))] [] (Io o r).1 (Io o r).2:=by
 unfold uZ at h
 exact aW nB amF h (.sk <| .bd λx1 q1=>.ite (λhb2=>Jn [1] [none] [] [] (nA (il hb2) (Gl (d+0) q1)) <| Fn Fo [] none) λhb2=>Jn [1] [none] [] [] (nA (D_ hb2) (Gl (d+0) q1)) <| .br 38 (λ_=>.br 52 (λ_=>Fn Fo [] none) λ_=>Fn Fo [] none) λ_=>.br 43 (λ_=>.br 52 (λ_=>Fn Fo [] none) λ_=>Fn Fo [] none) λ_=>.br 48 (λ_=>.br 52 (λ_=>Fn Fo [] none) λ_=>Fn Fo [] none) λ_=>Fn Fo [] none)
def vI (p_r:aX):Option (Bool) :=
 cond (decide (p_r.Client≥0)) (cond (decide (p_r.Client < 4)) (cond (decide (p_r.Seq≥1)) (cond (decide (p_r.Seq≤4611686018427387903)) ((uZ p_r.Op).bind λ(x1:Bool)=>some x1) (some false)) (some false)) (some false)) (some false)
def Gm (p_r:aX) (r:Bool):AV×WH:=((.bool r),[])
theorem KC (d:Nat) {p_r:aX} {r:Bool} (h:vI p_r=some r):Spec (aG aH (d+2)) 80 [(.agg (vF p_r))] [] (Gm p_r r).1 (Gm p_r r).2:=by
 unfold vI at h
 exact aW nB aol h (.br 6 (λ_=>.br 11 (λ_=>.br 16 (λ_=>.br 21 (λ_=>.bd λx1 q1=>iF (FP (d+0) q1) <| Fn Fo [] none) λ_=>Fn Fo [] none) λ_=>Fn Fo [] none) λ_=>Fn Fo [] none) λ_=>Fn Fo [] none)
def AQ (p_r:aX):Option (Bool) :=
 (FN p_r).bind λ(x1:Bool)=>cond x1 (some true) ((vI p_r).bind λ(x2:Bool)=>some x2)
def KD (p_r:aX) (r:Bool):AV×WH:=((.bool r),[])
theorem PU (d:Nat) {p_r:aX} {r:Bool} (h:AQ p_r=some r):Spec (aG aH (d+3)) 35 [(.agg (vF p_r))] [] (KD p_r r).1 (KD p_r r).2:=by
 unfold AQ at h
 exact aW nB anW h (.bd λx1 q1=>iF (Xu (d+1) q1) <| .br 5 (λ_=>Fn Fo [] none) λ_=>.bd λx2 q2=>iF (KC (d+0) q2) <| Fn Fo [] none)
def lD (aT:List au) (key:List UInt8) (s3:Int):List AV×WH:=([(.ptr (some (0,0))),(.str key),(.int .i64 s3)],[(some (.cells [(.acc 1 0 2 aT.length true)] false false)),(some (.cells (aB aT) false true))])
def ow (aT:List au) (key:List UInt8):(Int×Bool)⊕Unit→Ex×Fast×WH:=fun
 | .inl e=>(.ret,[(4,(.int .i64 e.1)),(5,(.bool e.2))],[(some (.cells [(.acc 1 0 2 aT.length true)] false false)),(some (.cells (aB aT) false true))])
 | .inr e=>((.exit 0),[(0,(.ptr (some (0,0))))],[(some (.cells [(.acc 1 0 2 aT.length true)] false false)),(some (.cells (aB aT) false true))])
abbrev GV (aT:List au) (key:List UInt8):=eY [0,1,6] (lD aT key) (ow aT key)
def jL (aT:List au) (key:List UInt8) (s3:Int):Option ((Int)⊕((Int×Bool)⊕Unit)) :=
 cond (decide (s3 < (aT.length:Int))) ((bW aT s3).bind λ(x4:au)=>cond (!(Op.bytesLess x4.Key key)) ((bW aT s3).bind λ(x5:au)=>some (.inr (.inl (s3,(x5.Key==key))))) (some (.inl (IntKind.i64.wrap (s3+1))))) (some (.inr (.inr ())))
def u7 (aT:List au) (key:List UInt8) (s3:Int):Option ((Int×Bool)⊕Unit):=eG (jL aT key) KK s3
theorem Ip (d:Nat) {aT:List au} {key:List UInt8} {s3:Int} {r:(Int)⊕((Int×Bool)⊕Unit)} (h:jL aT key s3=some r):bX (aU (aG aH (d+0)) KK 42 MS) 2 (mQ [0,1,6] (lD aT key s3)) (GV aT key r):=by
 unfold jL at h
 exact bE nB SA h (.br 13 (λ_=>.bd λx4 q4=>Ia aJ 21 1 q4 <| Ld aJ 23 false 1 0 q4 (.str x4.Key) rfl <| .br 25 (λ_=>.bd λx5 q5=>Ia aJ 32 1 q5 <| Ld aJ 34 false 1 0 q5 (.str x5.Key) rfl <| E0 [4,5]) λ_=>E0 [0,1,6]) λ_=>E0 [0])
theorem zl (d:Nat) {aT:List au} {key:List UInt8} {s3:Int} {r:(Int×Bool)⊕Unit} (h:u7 aT key s3=some r):bX (gq (aU (aG aH (d+0)) KK 42 MS) [0,1,6] KK) 2 (mQ [0,1,6] (lD aT key s3)) (ow aT key r) :=
 dL (st:=lD aT key) (fin:=ow aT key) (step:=jL aT key) (λe=>by rcases e with e | e<;>(intro h;cases h)) (λs x h=>Ip d h) KK s3 r h
def lZ (key:List UInt8) (aT:List au):Option (Int×Bool) :=
 (u7 aT key 0).bind λ(x6:(Int×Bool)⊕Unit)=>cond (mW x6) (some ((Bg x6).1,(Bg x6).2)) (some ((aT.length:Int),false))
def Ae (key:List UInt8) (aT:List au) (r:Int×Bool):AV×WH:=((.tuple [(.int .i64 r.1),(.bool r.2)]),[(some (.cells [(.acc 1 0 2 aT.length true)] false false)),(some (.cells (aB aT) false true))])
theorem M5 (d:Nat) {key:List UInt8} {aT:List au} {r:Int×Bool} (h:lZ key aT=some r):Spec (aG aH (d+1)) 134 [(.ptr (some (0,0))),(.str key)] [(some (.cells [(.acc 1 0 2 aT.length true)] false false)),(some (.cells (aB aT) false true))] (Ae key aT r).1 (Ae key aT r).2:=by
 unfold lZ at h
 exact aW nB ala h (.bd λx6 q6=>.ite (λzO=>Lp [none,none,none] [] [] (nA (il zO) (zl (d+0) q6)) <| Fn Fo [] none) λzO=>Lp [none,none,none] [] [] (nA (D_ zO) (zl (d+0) q6)) <| Fn Fo [] none)
abbrev JY (x2:Int×Bool) (aT:List au) (o:aY):Fast×WH:=([(0,(.ptr (some (0,0)))),(3,(.ptr (some (2,0)))),(4,(.ptr (some (3,0)))),(5,(.int .i64 x2.1)),(6,(.bool x2.2))],[(some (.cells [(.acc 1 0 2 aT.length true)] false false)),(some (.cells (aB aT) false true)),(some (.cells (fF o) false false)),(some (.cells (dQ (⟨0,([]:List UInt8)⟩:aA)) false false))])
def Iq (x2:Int×Bool) (aT:List au) (o:aY):Unit⊕Unit→Ex×Fast×WH:=fun
 | .inl e=>(.ret,[(4,(.ptr (some (2,0))))],[(some (.cells [(.acc 1 0 2 aT.length true)] false false)),(some (.cells (aB aT) false true)),(some (.cells (dQ (⟨5,([]:List UInt8)⟩:aA)) false false))])
 | .inr e=>(.normal,[(0,(.ptr (some (0,0)))),(3,(.ptr (some (2,0)))),(4,(.ptr (some (3,0)))),(5,(.int .i64 x2.1)),(6,(.bool x2.2))],[(some (.cells [(.acc 1 0 2 aT.length true)] false false)),(some (.cells (aB aT) false true)),(some (.cells (fF o) false false)),(some (.cells (dQ (⟨0,([]:List UInt8)⟩:aA)) false false))])
def rY (x2:Int×Bool) (aT:List au) (o:aY):Option (Unit⊕Unit) :=
 cond (!x2.2) (cond (decide ((aT.length:Int)≥8)) (some (.inl ())) (some (.inr ()))) (some (.inr ()))
theorem Bo (d:Nat) {x2:Int×Bool} {aT:List au} {o:aY} {r:Unit⊕Unit} (h:rY x2 aT o=some r):bX (aU (aG aH (d+0)) KK 147 wz) 2 (JY x2 aT o) (Iq x2 aT o r):=by
 unfold rY at h
 exact bE nB zi h (.br 40 (λ_=>.br 47 (λ_=>.st none <| E0 [4]) λ_=>E0 [0,3,4,5,6]) λ_=>E0 [0,3,4,5,6])
abbrev JZ (x2:Int×Bool) (x6:List au) (o:aY) (aT:List au):Fast×WH:=([(0,(.ptr (some (0,0)))),(4,(.ptr (some (2,0)))),(5,(.int .i64 x2.1)),(6,(.bool x2.2)),(7,(.acc 3 0 2 (x6++[(⟨o.Key,o.Value⟩:au)]).length true))],[(some (.cells [(.acc 1 0 2 aT.length true)] false false)),(some (.cells (aB aT) false true)),(some (.cells (dQ (⟨0,([]:List UInt8)⟩:aA)) false false)),(some (.cells (aB (x6++[(⟨o.Key,o.Value⟩:au)])) false true))])
def Ir (x2:Int×Bool) (x6:List au) (o:aY) (aT:List au):Int→Ex×Fast×WH:=λe=>(.normal,[(0,(.ptr (some (0,0)))),(4,(.ptr (some (2,0)))),(5,(.int .i64 e)),(7,(.acc 3 0 2 (x6++[(⟨o.Key,o.Value⟩:au)]).length true))],[(some (.cells [(.acc 1 0 2 aT.length true)] false false)),(some (.cells (aB aT) false true)),(some (.cells (dQ (⟨0,([]:List UInt8)⟩:aA)) false false)),(some (.cells (aB (x6++[(⟨o.Key,o.Value⟩:au)])) false true))])
def rZ (x2:Int×Bool) (x6:List au) (o:aY) (aT:List au):Option (Int) :=
 cond x2.2 (some (IntKind.i64.wrap (x2.1+1))) (some x2.1)
theorem Li (d:Nat) {x2:Int×Bool} {x6:List au} {o:aY} {aT:List au} {r:Int} (h:rZ x2 x6 o aT=some r):bX (aU (aG aH (d+0)) KK 147 qO) 2 (JZ x2 x6 o aT) (Ir x2 x6 o aT r):=by
 unfold rZ at h
 exact bE nB vG h (.br 65 (λ_=>E1 [0,4,5,7] [none,none,none,none] [] [.undef,.undef,.undef,.slice none 2 0 0 true]) λ_=>E1 [0,4,5,7] [none,none,none,none] [] [.undef,.undef,.undef,.slice none 2 0 0 true])
def um (o:aY) (aT:List au):Option (aA×List au) :=
 (uZ o).bind λ(x1:Bool)=>cond (!x1) (some ((⟨1,([]:List UInt8)⟩:aA),aT)) ((lZ o.Key aT).bind λ(x2:Int×Bool)=>cond (o.Kind==1) (cond (!x2.2) (some ((⟨4,([]:List UInt8)⟩:aA),aT)) ((bW aT x2.1).bind λ(x3:au)=>some ((⟨0,x3.Value⟩:aA),aT))) (cond (o.Kind==2) ((rY x2 aT o).bind λ(x4:Unit⊕Unit)=>cond (mW x4) (some ((⟨5,([]:List UInt8)⟩:aA),aT)) ((Ku aT 0 x2.1).bind λ(x6:List au)=>gd (dB 32 x6.length) (gd (dB 32 (x6++[(⟨o.Key,o.Value⟩:au)]).length) ((rZ x2 x6 o aT).bind λ(x9:Int)=>(Ku aT x9 aT.length).bind λ(x10:List au)=>gd (dB 32 ((x6++[(⟨o.Key,o.Value⟩:au)])++x10).length) (some ((⟨0,([]:List UInt8)⟩:aA),((x6++[(⟨o.Key,o.Value⟩:au)])++x10))))))) (cond (o.Kind==3) (cond (!x2.2) (some ((⟨4,([]:List UInt8)⟩:aA),aT)) ((Ku aT 0 x2.1).bind λ(dI:List au)=>gd (dB 32 dI.length) ((Ku aT (IntKind.i64.wrap (x2.1+1)) aT.length).bind λ(kR:List au)=>gd (dB 32 (dI++kR).length) (some ((⟨0,([]:List UInt8)⟩:aA),(dI++kR)))))) (cond (!x2.2) (some ((⟨4,([]:List UInt8)⟩:aA),aT)) ((bW aT x2.1).bind λ(xQ:au)=>cond (!(xQ.Value==o.Old)) ((bW aT x2.1).bind λ(ny:au)=>some ((⟨6,ny.Value⟩:aA),aT)) (gd (dB 32 aT.length) ((bW aT x2.1).bind λ(mR:au)=>some ((⟨0,([]:List UInt8)⟩:aA),(aT.set x2.1.toNat (⟨mR.Key,o.Value⟩:au))))))))))
def jQ (o:aY) (aT:List au) (r:aA×List au):AV×WH:=((.agg (dQ r.1)),[(some (.cells [(.acc 2 0 2 r.2.length true)] false false)),none,(some (.cells (aB r.2) false true))])
theorem Qk (d:Nat) {o:aY} {aT:List au} {r:aA×List au} (h:um o aT=some r):Spec (aG aH (d+2)) 114 [(.ptr (some (0,0))),(.agg (fF o))] [(some (.cells [(.acc 1 0 2 aT.length true)] false false)),(some (.cells (aB aT) false true))] (jQ o aT r).1 (jQ o aT r).2:=by
 unfold um at h
 exact aW nB ak8 h (.bd λx1 q1=>iF (FP (d+0) q1) <| .br 11 (λ_=>.st none <| Fn Fo [] Tw) λ_=>.bd λx2 q2=>Cl0 (M5 (d+0) q2) <| .br 22 (λ_=>.br 25 (λ_=>.st none <| Fn Fo [] Tw) λ_=>.bd λx3 q3=>Ia aJ 32 1 q3 <| Ld aJ 34 false 1 1 q3 (.str x3.Value) rfl <| .st none <| Fn Fo [] Tw) λ_=>.br 36 (λ_=>.bd λx4 q4=>.ite (λhb5=>Jn [0,3,4,5,6] [none,none,none,none,none] [] [] (nA (il hb5) (Bo (d+1) q4)) <| Fn Fo [] Tw) λhb5=>Jn [0,3,4,5,6] [none,none,none,none,none] [] [] (nA (D_ hb5) (Bo (d+1) q4)) <| .bd λx6 q6=>.v 55 (.acc 1 0 2 x6.length false) <| .ob (YA aJ q6:wP (.slice 2 (.c (.acc 1 0 2 aT.length true)) none (some (.c (.int .i64 x2.1))) none)=some (.acc 1 0 2 x6.length false)) <| .gd λq7=>.ap 56 x6.length (aB x6) <| .ob (by (try rw [pq aJ q6]);(try rw [kQ aJ q6]);simp:0+x6.length=x6.length) <| .ob (by (try rw [pq aJ q6]);(try rw [kQ aJ q6]);first | rfl | simp [aB]:aB []++((aB aT).drop (0)).take (x6.length * 2)=aB x6) <| .ob q7 <| .gd λq8=>.ap 64 (x6++[(⟨o.Key,o.Value⟩:au)]).length (aB (x6++[(⟨o.Key,o.Value⟩:au)])) <| .ob (by (try rw [pq aJ q6]);(try rw [kQ aJ q6]);simp:x6.length+1=(x6++[(⟨o.Key,o.Value⟩:au)]).length) <| .ob (by (try rw [pq aJ q6]);(try rw [kQ aJ q6]);exact (Row.app aJ _ _).symm:aB x6++aB ([(⟨o.Key,o.Value⟩:au)])=aB (x6++[(⟨o.Key,o.Value⟩:au)])) <| .ob q8 <| .bd λx9 q9=>Jn [0,4,5,6,7] [none,none,none,none,none] [] [.undef,.undef,.undef,.undef,.slice none 2 0 0 true] (Li (d+1) q9) <| .bd λx10 Pz=>.v 75 (.acc 1 (0+x9.toNat * 2) 2 x10.length false) <| .ob (by (try rw [pq aJ q6]);(try rw [kQ aJ q6]);exact Yz aJ Pz:wP (.slice 2 (.c (.acc 1 0 2 aT.length true)) (some (.c (.int .i64 x9))) none none)=some (.acc 1 (0+x9.toNat * 2) 2 x10.length false)) <| .gd λKE=>.ap 76 ((x6++[(⟨o.Key,o.Value⟩:au)])++x10).length (aB ((x6++[(⟨o.Key,o.Value⟩:au)])++x10)) <| .ob (by (try rw [pq aJ q6]);(try rw [kQ aJ q6]);(try rw [MJ aJ Pz]);exact WU _ _:(x6++[(⟨o.Key,o.Value⟩:au)]).length+x10.length=((x6++[(⟨o.Key,o.Value⟩:au)])++x10).length) <| .ob (by (try rw [pq aJ q6]);(try rw [kQ aJ q6]);(try rw [MJ aJ Pz]);exact (Row.app aJ _ _).symm:aB (x6++[(⟨o.Key,o.Value⟩:au)])++((aB aT).drop (0+x9.toNat * 2)).take (x10.length * 2)=aB ((x6++[(⟨o.Key,o.Value⟩:au)])++x10)) <| .ob KE <| .st none <| .st none <| .kl [1] <| Fn Fo [] Tw) λ_=>.br 80 (λ_=>.br 83 (λ_=>.st none <| Fn Fo [] Tw) λ_=>.bd λdI Ii=>.v 92 (.acc 1 0 2 dI.length false) <| .ob (YA aJ Ii:wP (.slice 2 (.c (.acc 1 0 2 aT.length true)) none (some (.c (.int .i64 x2.1))) none)=some (.acc 1 0 2 dI.length false)) <| .gd λUv=>.ap 93 dI.length (aB dI) <| .ob (by (try rw [pq aJ Ii]);(try rw [kQ aJ Ii]);simp:0+dI.length=dI.length) <| .ob (by (try rw [pq aJ Ii]);(try rw [kQ aJ Ii]);first | rfl | simp [aB]:aB []++((aB aT).drop (0)).take (dI.length * 2)=aB dI) <| .ob Uv <| .bd λkR NJ=>.v 100 (.acc 1 (0+(IntKind.i64.wrap (x2.1+1)).toNat * 2) 2 kR.length false) <| .ob (by (try rw [pq aJ Ii]);(try rw [kQ aJ Ii]);exact Yz aJ NJ:wP (.slice 2 (.c (.acc 1 0 2 aT.length true)) (some (.c (.int .i64 (IntKind.i64.wrap (x2.1+1))))) none none)=some (.acc 1 (0+(IntKind.i64.wrap (x2.1+1)).toNat * 2) 2 kR.length false)) <| .gd λRf=>.ap 101 (dI++kR).length (aB (dI++kR)) <| .ob (by (try rw [pq aJ Ii]);(try rw [kQ aJ Ii]);(try rw [MJ aJ NJ]);exact WU _ _:dI.length+kR.length=(dI++kR).length) <| .ob (by (try rw [pq aJ Ii]);(try rw [kQ aJ Ii]);(try rw [MJ aJ NJ]);exact (Row.app aJ _ _).symm:aB dI++((aB aT).drop (0+(IntKind.i64.wrap (x2.1+1)).toNat * 2)).take (kR.length * 2)=aB (dI++kR)) <| .ob Rf <| .st none <| .st none <| .kl [1] <| Fn Fo [] Tw) λ_=>.br 105 (λ_=>.st none <| Fn Fo [] Tw) λ_=>.bd λxQ q16=>Ia aJ 115 1 q16 <| Ld aJ 117 false 1 1 q16 (.str xQ.Value) rfl <| .br 109 (λ_=>.bd λny PO=>Ia aJ 126 1 PO <| Ld aJ 128 false 1 1 PO (.str ny.Value) rfl <| .st none <| Fn Fo [] Tw) λ_=>.gd λZy=>Ap0 aJ 135 Zy <| .bd λmR PV=>Ia aJ 140 5 PV <| .st (some (aB (aT.set x2.1.toNat (⟨mR.Key,o.Value⟩:au)))) <| .ob (Dq (o:=1) aJ PV rfl:Qg (aB aT) (0+x2.1.toNat * 2+1) [(.str o.Value)]=some (aB (aT.set x2.1.toNat (⟨mR.Key,o.Value⟩:au)))) <| .st none <| .st none <| .kl [1] <| .y8 (.fin (some false) [] (some true)) _ (λr=>@Eq AV (.agg (dQ (⟨0,([]:List UInt8)⟩:aA))) (jQ o aT r).1∧@Eq WH [(some (.cells [(.acc 2 0 2 aT.length true)] false false)),none,(some (.cells (aB (aT.set x2.1.toNat (⟨mR.Key,o.Value⟩:au))) false true))] (jQ o aT r).2) (by show _∧_;(try rw [show AV.list 2 aT.length (aB (aT.set x2.1.toNat (⟨mR.Key,o.Value⟩:au))) false=bK (aT.set x2.1.toNat (⟨mR.Key,o.Value⟩:au)) from by simp only [bK,List.length_set]]);refine ⟨?_, ?_⟩<;>first | rfl | (simp only [jQ,List.length_set,List.length_append,List.length_replicate,List.length_cons,List.length_nil,List.length_take,List.length_drop,Nat.add_zero,Nat.zero_add];done) | simp [jQ]))
def r9 (l:List au) (s7:Int×List au):List AV×WH:=([(bK l),(.ptr (some (0,0))),(.ptr (some (1,0))),(.int .i64 s7.1)],[(some (.cells [(.acc 2 0 2 0 true)] false false)),(some (.cells [(.acc 3 0 2 s7.2.length true)] false false)),(some (.cells (aB []) false true)),(some (.cells (aB s7.2) false true))])
def wF (l:List au):(List au)→Ex×Fast×WH:=λe=>((.exit 0),[(2,(.ptr (some (0,0)))),(3,(.ptr (some (1,0))))],[(some (.cells [(.acc 2 0 2 0 true)] false false)),(some (.cells [(.acc 3 0 2 e.length true)] false false)),(some (.cells (aB []) false true)),(some (.cells (aB e) false true))])
abbrev Ou (l:List au):=eY [0,2,3,4] (r9 l) (wF l)
def l5 (l:List au) (s7:Int×List au):Option ((Int×List au)⊕((List au))) :=
 cond (decide (s7.1 < (l.length:Int))) ((bW l s7.1).bind λ(x8:au)=>(bW l s7.1).bind λ(x9:au)=>(um (⟨2,x8.Key,x9.Value,([]:List UInt8)⟩:aY) s7.2).bind λ(x10:aA×List au)=>some (.inl ((IntKind.i64.wrap (s7.1+1)),x10.2))) (some (.inr s7.2))
def Dw (l:List au) (s7:Int×List au):Option ((List au)):=eG (l5 l) KK s7
theorem Ql (d:Nat) {l:List au} {s7:Int×List au} {r:(Int×List au)⊕((List au))} (h:l5 l s7=some r):bX (aU (aG aH (d+2)) KK 25 Xf) 0 (mQ [0,2,3,4] (r9 l s7)) (Ou l r):=by
 unfold l5 at h
 exact bE nB abf h (.br 9 (λ_=>.bd λx8 q8=>Ix aJ 14 q8 <| .bd λx9 q9=>Ix aJ 19 q9 <| .bd λx10 Pz=>Cl0 (Qk (d+0) Pz) <| E1 [0,2,3,4] [none,none,none,none] [] [.slice none 2 0 0 true,.undef,.undef,.undef]) λ_=>E0 [2,3])
theorem Qm (d:Nat) {l:List au} {s7:Int×List au} {r:(List au)} (h:Dw l s7=some r):bX (gq (aU (aG aH (d+2)) KK 25 Xf) [0,2,3,4] KK) 0 (mQ [0,2,3,4] (r9 l s7)) (wF l r) :=
 dL (st:=r9 l) (fin:=wF l) (step:=l5 l) (λe=>by (intro h;cases h)) (λs x h=>Ql d h) KK s7 r h
def Bp (l:List au):Option (qL) :=
 (Dw l (0,[])).bind λ(dN:(List au))=>some (⟨dN⟩:qL)
def Iu (l:List au) (r:qL):AV×WH:=((.agg (aaG r)),[])
theorem Xv (d:Nat) {l:List au} {r:qL} (h:Bp l=some r):Spec (aG aH (d+3)) 111 [(bK l)] [] (Iu l r).1 (Iu l r).2:=by
 unfold Bp at h
 exact aW nB amG h (.z 2 [.slice none 2 0 0 true] <| .z 5 [.agg [.slice none 2 0 0 true]] <| .z 3 [.slice none 2 0 0 true] <| .st none <| .bd λdN KE=>Lp [none,none,none,none] [Tw,Tw,Tw,Tw] [.slice none 2 0 0 true,.undef,.undef,.undef] (Qm (d+0) KE) <| .st none <| Fn Fo [.agg [.slice none 2 0 0 true]] none)
def jA (aT:List ak) (client:Int) (s3:Int):List AV×WH:=([(.ptr (some (0,0))),(.int .i64 client),(.ptr (some (2,0))),(.int .i64 s3)],[(some (.cells [(.acc 1 0 4 aT.length true)] false false)),(some (.cells (aI aT) false true)),(some (.cells (bL (⟨0,0,(⟨0,([]:List UInt8)⟩:aA)⟩:ak)) false false))])
def lU (aT:List ak) (client:Int):ak⊕Unit→Ex×Fast×WH:=fun
 | .inl e=>(.ret,[(4,(.ptr (some (2,0)))),(5,(.bool true))],[(some (.cells [(.acc 1 0 4 aT.length true)] false false)),(some (.cells (aI aT) false true)),(some (.cells (bL e) false false))])
 | .inr e=>((.exit 0),[(4,(.ptr (some (2,0))))],[(some (.cells [(.acc 1 0 4 aT.length true)] false false)),(some (.cells (aI aT) false true)),(some (.cells (bL (⟨0,0,(⟨0,([]:List UInt8)⟩:aA)⟩:ak)) false false))])
abbrev Dx (aT:List ak) (client:Int):=eY [0,1,4,6] (jA aT client) (lU aT client)
def iK (aT:List ak) (client:Int) (s3:Int):Option ((Int)⊕(ak⊕Unit)) :=
 cond (decide (s3 < (aT.length:Int))) ((bW aT s3).bind λ(x4:ak)=>cond (x4.Client==client) ((bW aT s3).bind λ(x5:ak)=>some (.inr (.inl x5))) (some (.inl (IntKind.i64.wrap (s3+1))))) (some (.inr (.inr ())))
def pU (aT:List ak) (client:Int) (s3:Int):Option (ak⊕Unit):=eG (iK aT client) KK s3
theorem Ew (d:Nat) {aT:List ak} {client:Int} {s3:Int} {r:(Int)⊕(ak⊕Unit)} (h:iK aT client s3=some r):bX (aU (aG aH (d+0)) KK 34 MP) 2 (mQ [0,1,4,6] (jA aT client s3)) (Dx aT client r):=by
 unfold iK at h
 exact bE nB Sv h (.br 13 (λ_=>.bd λx4 q4=>Ia bQ 21 1 q4 <| Ld bQ 23 false 1 0 q4 (.int .i64 x4.Client) rfl <| .br 25 (λ_=>.bd λx5 q5=>Ia bQ 31 1 q5 <| Ld bQ 32 true 4 0 q5 (.agg (bL x5)) rfl <| .st none <| E0 [4,5]) λ_=>E0 [0,1,4,6]) λ_=>E0 [4])
theorem vJ (d:Nat) {aT:List ak} {client:Int} {s3:Int} {r:ak⊕Unit} (h:pU aT client s3=some r):bX (gq (aU (aG aH (d+0)) KK 34 MP) [0,1,4,6] KK) 2 (mQ [0,1,4,6] (jA aT client s3)) (lU aT client r) :=
 dL (st:=jA aT client) (fin:=lU aT client) (step:=iK aT client) (λe=>by rcases e with e | e<;>(intro h;cases h)) (λs x h=>Ew d h) KK s3 r h
def kV (client:Int) (aT:List ak):Option (ak×Bool) :=
 (pU aT client 0).bind λ(x6:ak⊕Unit)=>cond (mW x6) (some ((Bg x6),true)) (some ((⟨0,0,(⟨0,([]:List UInt8)⟩:aA)⟩:ak),false))
def wH (client:Int) (aT:List ak) (r:ak×Bool):AV×WH:=((.tuple [(.agg (bL r.1)),(.bool r.2)]),[(some (.cells [(.acc 1 0 4 aT.length true)] false false)),(some (.cells (aI aT) false true))])
theorem Iw (d:Nat) {client:Int} {aT:List ak} {r:ak×Bool} (h:kV client aT=some r):Spec (aG aH (d+1)) 113 [(.ptr (some (0,0))),(.int .i64 client)] [(some (.cells [(.acc 1 0 4 aT.length true)] false false)),(some (.cells (aI aT) false true))] (wH client aT r).1 (wH client aT r).2:=by
 unfold kV at h
 exact aW nB ak7 h (.bd λx6 q6=>.ite (λzO=>Lp [none,none,none,none] [] [] (nA (il zO) (vJ (d+0) q6)) <| Fn Fo [] none) λzO=>Lp [none,none,none,none] [] [] (nA (D_ zO) (vJ (d+0) q6)) <| .st none <| Fn Fo [] none)
abbrev Dy (aR:ak) (x1:ak×Bool) (aT:List ak):Fast×WH:=([(0,(.ptr (some (0,0)))),(3,(.ptr (some (2,0)))),(5,(.ptr (some (3,0))))],[(some (.cells [(.acc 1 0 4 aT.length true)] false false)),(some (.cells (aI aT) false true)),(some (.cells (bL aR) false false)),(some (.cells (bL x1.1) false false))])
def Ce (aR:ak) (x1:ak×Bool) (aT:List ak):Unit⊕Unit→Ex×Fast×WH:=fun
 | .inl e=>(.ret,[(4,(.bool false))],[(some (.cells [(.acc 1 0 4 aT.length true)] false false)),(some (.cells (aI aT) false true))])
 | .inr e=>(.normal,[(0,(.ptr (some (0,0)))),(3,(.ptr (some (2,0))))],[(some (.cells [(.acc 1 0 4 aT.length true)] false false)),(some (.cells (aI aT) false true)),(some (.cells (bL aR) false false))])
def iB (aR:ak) (x1:ak×Bool) (aT:List ak):Option (Unit⊕Unit) :=
 cond (decide (aR.Client < 0)) (some (.inl ())) (cond (decide (aR.Client≥4)) (some (.inl ())) (cond (decide (aR.Seq < 1)) (some (.inl ())) (cond (decide (aR.Seq≤x1.1.Seq)) (some (.inl ())) (some (.inr ())))))
theorem vK (d:Nat) {aR:ak} {x1:ak×Bool} {aT:List ak} {r:Unit⊕Unit} (h:iB aR x1 aT=some r):bX (aU (aG aH (d+0)) KK 96 Oq) 2 (Dy aR x1 aT) (Ce aR x1 aT r):=by
 unfold iB at h
 exact bE nB MQ h (.br 20 (λ_=>E0 [4]) λ_=>.br 25 (λ_=>E0 [4]) λ_=>.br 30 (λ_=>E0 [4]) λ_=>.br 36 (λ_=>E0 [4]) λ_=>E0 [0,3])
abbrev Dz (ji:Bool×Int×List ak) (aT:List ak) (aR:ak):Fast×WH:=([(0,(.ptr (some (0,0)))),(3,(.ptr (some (2,0)))),(7,(.acc 3 0 4 ji.2.2.length true)),(8,(.bool ji.1)),(9,(.int .i64 ji.2.1))],[(some (.cells [(.acc 1 0 4 aT.length true)] false false)),(some (.cells (aI aT) false true)),(some (.cells (bL aR) false false)),(some (.cells (aI ji.2.2) false true))])
def Cg (ji:Bool×Int×List ak) (aT:List ak) (aR:ak):Bool→Ex×Fast×WH:=λe=>(.normal,[(0,(.ptr (some (0,0)))),(3,(.ptr (some (2,0)))),(7,(.acc 3 0 4 ji.2.2.length true)),(8,(.bool ji.1)),(9,(.int .i64 ji.2.1)),(60,(.bool e))],[(some (.cells [(.acc 1 0 4 aT.length true)] false false)),(some (.cells (aI aT) false true)),(some (.cells (bL aR) false false)),(some (.cells (aI ji.2.2) false true))])
def lF (ji:Bool×Int×List ak) (aT:List ak) (aR:ak):Option (Bool) :=
 cond (!ji.1) ((bW aT ji.2.1).bind λ(mR:ak)=>some (decide (mR.Client≥aR.Client))) (some false)
theorem Ey (d:Nat) {ji:Bool×Int×List ak} {aT:List ak} {aR:ak} {r:Bool} (h:lF ji aT aR=some r):bX (aU (aG aH (d+0)) KK 96 qP) 2 (Dz ji aT aR) (Cg ji aT aR r):=by
 unfold lF at h
 exact bE nB vH h (.br 48 (λ_=>.bd λmR PV=>Ia bQ 54 1 PV <| Ld bQ 56 false 1 0 PV (.int .i64 mR.Client) rfl <| E1 [0,3,7,8,9,60] [none,none,none,none,none,none] [] [.undef,.undef,.slice none 4 0 0 true,.undef,.undef,.undef]) λ_=>E1 [0,3,7,8,9,60] [none,none,none,none,none,none] [] [.undef,.undef,.slice none 4 0 0 true,.undef,.undef,.undef])
abbrev DC (ji:Bool×Int×List ak) (aT:List ak) (aR:ak):Fast×WH:=([(0,(.ptr (some (0,0)))),(3,(.ptr (some (2,0)))),(7,(.acc 3 0 4 ji.2.2.length true)),(8,(.bool ji.1)),(9,(.int .i64 ji.2.1))],[(some (.cells [(.acc 1 0 4 aT.length true)] false false)),(some (.cells (aI aT) false true)),(some (.cells (bL aR) false false)),(some (.cells (aI ji.2.2) false true))])
def Ch (ji:Bool×Int×List ak) (aT:List ak) (aR:ak):(Bool×List ak)→Ex×Fast×WH:=λe=>(.normal,[(0,(.ptr (some (0,0)))),(3,(.ptr (some (2,0)))),(7,(.acc 3 0 4 e.2.length true)),(8,(.bool e.1)),(9,(.int .i64 ji.2.1))],[(some (.cells [(.acc 1 0 4 aT.length true)] false false)),(some (.cells (aI aT) false true)),(some (.cells (bL aR) false false)),(some (.cells (aI e.2) false true))])
def lG (ji:Bool×Int×List ak) (aT:List ak) (aR:ak):Option ((Bool×List ak)) :=
 (lF ji aT aR).bind λ(x20:Bool)=>cond x20 (gd (dB 40 (ji.2.2++[aR]).length) (some (true,(ji.2.2++[aR])))) (some (ji.1,ji.2.2))
theorem Ez (d:Nat) {ji:Bool×Int×List ak} {aT:List ak} {aR:ak} {r:(Bool×List ak)} (h:lG ji aT aR=some r):bX (aU (aG aH (d+0)) KK 96 tC) 2 (DC ji aT aR) (Ch ji aT aR r):=by
 unfold lG at h
 exact bE nB wC h (.bd λx20 q20=>Jn [0,3,7,8,9] [none,none,none,none,none] [] [.undef,.undef,.slice none 4 0 0 true,.undef,.undef] (Ey (d+0) q20) <| .br 60 (λ_=>.gd λq21=>Ap bQ 64 q21 <| E1 [0,3,7,8,9] [none,none,none,none,none] [] [.undef,.undef,.slice none 4 0 0 true,.undef,.undef]) λ_=>E1 [0,3,7,8,9] [none,none,none,none,none] [] [.undef,.undef,.slice none 4 0 0 true,.undef,.undef])
def jB (aT:List ak) (aR:ak) (ji:Bool×Int×List ak):List AV×WH:=([(.ptr (some (0,0))),(.ptr (some (2,0))),(.acc 3 0 4 ji.2.2.length true),(.bool ji.1),(.int .i64 ji.2.1)],[(some (.cells [(.acc 1 0 4 aT.length true)] false false)),(some (.cells (aI aT) false true)),(some (.cells (bL aR) false false)),(some (.cells (aI ji.2.2) false true))])
def lV (aT:List ak) (aR:ak):(Bool×List ak)→Ex×Fast×WH:=λe=>((.exit 0),[(0,(.ptr (some (0,0)))),(3,(.ptr (some (2,0)))),(7,(.acc 3 0 4 e.2.length true)),(8,(.bool e.1))],[(some (.cells [(.acc 1 0 4 aT.length true)] false false)),(some (.cells (aI aT) false true)),(some (.cells (bL aR) false false)),(some (.cells (aI e.2) false true))])
abbrev DF (aT:List ak) (aR:ak):=eY [0,3,7,8,9] (jB aT aR) (lV aT aR)
def gU (aT:List ak) (aR:ak) (ji:Bool×Int×List ak):Option ((Bool×Int×List ak)⊕((Bool×List ak))) :=
 cond (decide (ji.2.1 < (aT.length:Int))) ((lG ji aT aR).bind λ(NK:(Bool×List ak))=>(bW aT ji.2.1).bind λ(x23:ak)=>cond (x23.Client != aR.Client) ((bW aT ji.2.1).bind λ(x24:ak)=>gd (dB 40 (NK.2++[x24]).length) (some (.inl (NK.1,(IntKind.i64.wrap (ji.2.1+1)),(NK.2++[x24]))))) (some (.inl (NK.1,(IntKind.i64.wrap (ji.2.1+1)),NK.2)))) (some (.inr (ji.1,ji.2.2)))
def jk (aT:List ak) (aR:ak) (ji:Bool×Int×List ak):Option ((Bool×List ak)):=eG (gU aT aR) KK ji
theorem EA (d:Nat) {aT:List ak} {aR:ak} {ji:Bool×Int×List ak} {r:(Bool×Int×List ak)⊕((Bool×List ak))} (h:gU aT aR ji=some r):bX (aU (aG aH (d+0)) KK 96 MR) 2 (mQ [0,3,7,8,9] (jB aT aR ji)) (DF aT aR r):=by
 unfold gU at h
 exact bE nB Sy h (.br 43 (λ_=>.sk <| .bd λNK q22=>Jn [0,3,7,8,9] [none,none,none,none,none] [] [.undef,.undef,.slice none 4 0 0 true,.undef,.undef] (Ez (d+0) q22) <| .bd λx23 q23=>Ia bQ 70 1 q23 <| Ld bQ 72 false 1 0 q23 (.int .i64 x23.Client) rfl <| .br 75 (λ_=>.bd λx24 q24=>Ia bQ 82 1 q24 <| Ld bQ 83 true 4 0 q24 (.agg (bL x24)) rfl <| .gd λq25=>Ap bQ 85 q25 <| E1 [0,3,7,8,9] [none,none,none,none,none] [] [.undef,.undef,.slice none 4 0 0 true,.undef,.undef]) λ_=>E1 [0,3,7,8,9] [none,none,none,none,none] [] [.undef,.undef,.slice none 4 0 0 true,.undef,.undef]) λ_=>E1 [0,3,7,8] [none,none,none,none] [] [.undef,.undef,.slice none 4 0 0 true,.undef])
theorem EB (d:Nat) {aT:List ak} {aR:ak} {ji:Bool×Int×List ak} {r:(Bool×List ak)} (h:jk aT aR ji=some r):bX (gq (aU (aG aH (d+0)) KK 96 MR) [0,3,7,8,9] KK) 2 (mQ [0,3,7,8,9] (jB aT aR ji)) (lV aT aR r) :=
 dL (st:=jB aT aR) (fin:=lV aT aR) (step:=gU aT aR) (λe=>by (intro h;cases h)) (λs x h=>EA d h) KK ji r h
abbrev DJ (sU:(Bool×List ak)) (aR:ak) (aT:List ak):Fast×WH:=([(0,(.ptr (some (0,0)))),(3,(.ptr (some (2,0)))),(7,(.acc 3 0 4 sU.2.length true)),(8,(.bool sU.1))],[(some (.cells [(.acc 1 0 4 aT.length true)] false false)),(some (.cells (aI aT) false true)),(some (.cells (bL aR) false false)),(some (.cells (aI sU.2) false true))])
def Ci (sU:(Bool×List ak)) (aR:ak) (aT:List ak):(List ak)→Ex×Fast×WH:=λe=>(.normal,[(0,(.ptr (some (0,0)))),(7,(.acc 2 0 4 e.length true))],[(some (.cells [(.acc 1 0 4 aT.length true)] false false)),(some (.cells (aI aT) false true)),(some (.cells (aI e) false true))])
def iD (sU:(Bool×List ak)) (aR:ak) (aT:List ak):Option ((List ak)) :=
 cond (!sU.1) (gd (dB 40 (sU.2++[aR]).length) (some (sU.2++[aR]))) (some sU.2)
theorem EC (d:Nat) {sU:(Bool×List ak)} {aR:ak} {aT:List ak} {r:(List ak)} (h:iD sU aR aT=some r):bX (aU (aG aH (d+0)) KK 96 Du) 2 (DJ sU aR aT) (Ci sU aR aT r):=by
 unfold iD at h
 exact bE nB Et h (.br 87 (λ_=>.gd λq27=>Ap bQ 91 q27 <| E1 [0,7] [none,none] [] [.undef,.slice none 4 0 0 true]) λ_=>E1 [0,7] [none,none] [] [.undef,.slice none 4 0 0 true])
def iJ (aR:ak) (aT:List ak):Option (Bool×List ak) :=
 (kV aR.Client aT).bind λ(x1:ak×Bool)=>(iB aR x1 aT).bind λ(x2:Unit⊕Unit)=>cond (mW x2) (some (false,aT)) ((jk aT aR (false,0,[])).bind λ(sU:(Bool×List ak))=>(iD sU aR aT).bind λ(x28:(List ak))=>some (true,x28))
def wI (aR:ak) (aT:List ak) (r:Bool×List ak):AV×WH:=((.bool r.1),[(some (.cells [(.acc 2 0 4 r.2.length true)] false false)),none,(some (.cells (aI r.2) false true))])
theorem Iy (d:Nat) {aR:ak} {aT:List ak} {r:Bool×List ak} (h:iJ aR aT=some r):Spec (aG aH (d+2)) 115 [(.ptr (some (0,0))),(.agg (bL aR))] [(some (.cells [(.acc 1 0 4 aT.length true)] false false)),(some (.cells (aI aT) false true))] (wI aR aT r).1 (wI aR aT r).2:=by
 unfold iJ at h
 exact aW nB ak9 h (.bd λx1 q1=>Cl0 (Iw (d+0) q1) <| .st none <| .bd λx2 q2=>.ite (λhb3=>Jn [0,3,5] [none,none,none] [] [] (nA (il hb3) (vK (d+1) q2)) <| Fn Fo [] Tw) λhb3=>Jn [0,3,5] [none,none,none] [] [] (nA (D_ hb3) (vK (d+1) q2)) <| .z 7 [.slice none 4 0 0 true] <| .bd λsU q26=>Lp [none,none,Tw,none,none] [] [.undef,.undef,.slice none 4 0 0 true,.undef,.undef] (EB (d+1) q26) <| .bd λx28 q28=>Jn [0,3,7,8] [none,none,none,none] [] [.undef,.undef,.slice none 4 0 0 true,.undef] (EC (d+1) q28) <| .st none <| .kl [1] <| Fn Fo [] Tw)
def nC (l:List ak) (s5:Int×List ak):List AV×WH:=([(cu l),(.ptr (some (0,0))),(.ptr (some (1,0))),(.int .i64 s5.1)],[(some (.cells [(.acc 2 0 4 0 true)] false false)),(some (.cells [(.acc 3 0 4 s5.2.length true)] false false)),(some (.cells (aI []) false true)),(some (.cells (aI s5.2) false true))])
def qQ (l:List ak):(List ak)→Ex×Fast×WH:=λe=>((.exit 0),[(2,(.ptr (some (0,0)))),(3,(.ptr (some (1,0))))],[(some (.cells [(.acc 2 0 4 0 true)] false false)),(some (.cells [(.acc 3 0 4 e.length true)] false false)),(some (.cells (aI []) false true)),(some (.cells (aI e) false true))])
abbrev J2 (l:List ak):=eY [0,2,3,4] (nC l) (qQ l)
def jm (l:List ak) (s5:Int×List ak):Option ((Int×List ak)⊕((List ak))) :=
 cond (decide (s5.1 < (l.length:Int))) ((bW l s5.1).bind λ(x6:ak)=>(iJ x6 s5.2).bind λ(x7:Bool×List ak)=>some (.inl ((IntKind.i64.wrap (s5.1+1)),x7.2))) (some (.inr s5.2))
def yC (l:List ak) (s5:Int×List ak):Option ((List ak)):=eG (jm l) KK s5
theorem Lj (d:Nat) {l:List ak} {s5:Int×List ak} {r:(Int×List ak)⊕((List ak))} (h:jm l s5=some r):bX (aU (aG aH (d+2)) KK 18 Xg) 0 (mQ [0,2,3,4] (nC l s5)) (J2 l r):=by
 unfold jm at h
 exact bE nB abg h (.br 9 (λ_=>.bd λx6 q6=>Ix bQ 14 q6 <| .bd λx7 q7=>Cl0 (Iy (d+0) q7) <| E1 [0,2,3,4] [none,none,none,none] [] [.slice none 4 0 0 true,.undef,.undef,.undef]) λ_=>E0 [2,3])
theorem Ll (d:Nat) {l:List ak} {s5:Int×List ak} {r:(List ak)} (h:yC l s5=some r):bX (gq (aU (aG aH (d+2)) KK 18 Xg) [0,2,3,4] KK) 0 (mQ [0,2,3,4] (nC l s5)) (qQ l r) :=
 dL (st:=nC l) (fin:=qQ l) (step:=jm l) (λe=>by (intro h;cases h)) (λs x h=>Lj d h) KK s5 r h
def uo (l:List ak):Option (mE) :=
 (yC l (0,[])).bind λ(x8:(List ak))=>some (⟨x8⟩:mE)
def CX (l:List ak) (r:mE):AV×WH:=((.agg (Uh r)),[])
theorem Qn (d:Nat) {l:List ak} {r:mE} (h:uo l=some r):Spec (aG aH (d+3)) 112 [(cu l)] [] (CX l r).1 (CX l r).2:=by
 unfold uo at h
 exact aW nB amH h (.z 2 [.slice none 4 0 0 true] <| .z 5 [.agg [.slice none 4 0 0 true]] <| .z 3 [.slice none 4 0 0 true] <| .st none <| .bd λx8 q8=>Lp [none,none,none,none] [Tw,Tw,Tw,Tw] [.slice none 4 0 0 true,.undef,.undef,.undef] (Ll (d+0) q8) <| .st none <| Fn Fo [.agg [.slice none 4 0 0 true]] none)
def r_ (aR:aD):Option (aM) :=
 (Bp aR.Pairs).bind λ(x1:qL)=>(uo aR.gB).bind λ(x2:mE)=>some (⟨x1,x2,aR.fB,aR.Epoch⟩:aM)
def ED (aR:aD) (r:aM):AV×WH:=((.ptr (some (0,0))),[(some (.cells (bH r) false false))])
theorem Iz (d:Nat) {aR:aD} {r:aM} (h:r_ aR=some r):Spec (aG aH (d+4)) 81 [(.agg (cO aR))] [] (ED aR r).1 (ED aR r).2:=by
 unfold r_ at h
 exact aW nB aom h (.bd λx1 q1=>Cl [] Fo [.slice none 2 0 0 true] (Xv (d+0) q1) <| .er <| .ob (rfl:@Eq (Option AV) (some (cu aR.gB)) (some (cu aR.gB))) <| .bd λx2 q2=>Cl [] Fo [.slice none 4 0 0 true] (Qn (d+0) q2) <| Fn Fo [] none)
def jC (dA:aM) (client:Int) (s3:Int):List AV×WH:=([(.ptr (some (0,1))),(.int .i64 client),(.ptr (some (1,0))),(.int .i64 s3)],[(some (.cells (bH dA) false false)),(some (.cells (bL (⟨0,0,(⟨0,([]:List UInt8)⟩:aA)⟩:ak)) false false))])
def lW (dA:aM) (client:Int):ak⊕Unit→Ex×Fast×WH:=fun
 | .inl e=>(.ret,[(4,(.ptr (some (1,0)))),(5,(.bool true))],[(some (.cells (bH dA) false false)),(some (.cells (bL e) false false))])
 | .inr e=>((.exit 0),[(4,(.ptr (some (1,0))))],[(some (.cells (bH dA) false false)),(some (.cells (bL (⟨0,0,(⟨0,([]:List UInt8)⟩:aA)⟩:ak)) false false))])
abbrev DK (dA:aM) (client:Int):=eY [0,1,4,6] (jC dA client) (lW dA client)
def iL (dA:aM) (client:Int) (s3:Int):Option ((Int)⊕(ak⊕Unit)) :=
 cond (decide (s3 < (dA.S_.L.length:Int))) ((bW dA.S_.L s3).bind λ(x4:ak)=>cond (x4.Client==client) ((bW dA.S_.L s3).bind λ(x5:ak)=>some (.inr (.inl x5))) (some (.inl (IntKind.i64.wrap (s3+1))))) (some (.inr (.inr ())))
def pV (dA:aM) (client:Int) (s3:Int):Option (ak⊕Unit):=eG (iL dA client) KK s3
theorem EF (d:Nat) {dA:aM} {client:Int} {s3:Int} {r:(Int)⊕(ak⊕Unit)} (h:iL dA client s3=some r):bX (aU (aG aH (d+0)) KK 34 MP) 1 (mQ [0,1,4,6] (jC dA client s3)) (DK dA client r):=by
 unfold iL at h
 exact bE nB Sv h (.br 13 (λ_=>.bd λx4 q4=>Ix bQ 21 q4 <| .br 25 (λ_=>.bd λx5 q5=>Ix bQ 31 q5 <| .st none <| E0 [4,5]) λ_=>E0 [0,1,4,6]) λ_=>E0 [4])
theorem vL (d:Nat) {dA:aM} {client:Int} {s3:Int} {r:ak⊕Unit} (h:pV dA client s3=some r):bX (gq (aU (aG aH (d+0)) KK 34 MP) [0,1,4,6] KK) 1 (mQ [0,1,4,6] (jC dA client s3)) (lW dA client r) :=
 dL (st:=jC dA client) (fin:=lW dA client) (step:=iL dA client) (λe=>by rcases e with e | e<;>(intro h;cases h)) (λs x h=>EF d h) KK s3 r h
def jo (client:Int) (dA:aM):Option (ak×Bool) :=
 (pV dA client 0).bind λ(x6:ak⊕Unit)=>cond (mW x6) (some ((Bg x6),true)) (some ((⟨0,0,(⟨0,([]:List UInt8)⟩:aA)⟩:ak),false))
def wJ (client:Int) (dA:aM) (r:ak×Bool):AV×WH:=((.tuple [(.agg (bL r.1)),(.bool r.2)]),[(some (.cells (bH dA) false false))])
theorem zm (d:Nat) {client:Int} {dA:aM} {r:ak×Bool} (h:jo client dA=some r):Spec (aG aH (d+1)) 113 [(.ptr (some (0,1))),(.int .i64 client)] [(some (.cells (bH dA) false false))] (wJ client dA r).1 (wJ client dA r).2:=by
 unfold jo at h
 exact aW nB ak7 h (.bd λx6 q6=>.ite (λzO=>Lp [none,none,none,none] [] [] (nA (il zO) (vL (d+0) q6)) <| Fn Fo [] none) λzO=>Lp [none,none,none,none] [] [] (nA (D_ zO) (vL (d+0) q6)) <| .st none <| Fn Fo [] none)
def lH (t:aM) (key:List UInt8) (s3:Int):List AV×WH:=([(.ptr (some (0,0))),(.str key),(.int .i64 s3)],[(some (.cells (bH t) false false))])
def oz (t:aM) (key:List UInt8):(Int×Bool)⊕Unit→Ex×Fast×WH:=fun
 | .inl e=>(.ret,[(4,(.int .i64 e.1)),(5,(.bool e.2))],[(some (.cells (bH t) false false))])
 | .inr e=>((.exit 0),[(0,(.ptr (some (0,0))))],[(some (.cells (bH t) false false))])
abbrev GX (t:aM) (key:List UInt8):=eY [0,1,6] (lH t key) (oz t key)
def mF (t:aM) (key:List UInt8) (s3:Int):Option ((Int)⊕((Int×Bool)⊕Unit)) :=
 cond (decide (s3 < (t.T.L.length:Int))) ((bW t.T.L s3).bind λ(x4:au)=>cond (!(Op.bytesLess x4.Key key)) ((bW t.T.L s3).bind λ(x5:au)=>some (.inr (.inl (s3,(x5.Key==key))))) (some (.inl (IntKind.i64.wrap (s3+1))))) (some (.inr (.inr ())))
def Bq (t:aM) (key:List UInt8) (s3:Int):Option ((Int×Bool)⊕Unit):=eG (mF t key) KK s3
theorem IB (d:Nat) {t:aM} {key:List UInt8} {s3:Int} {r:(Int)⊕((Int×Bool)⊕Unit)} (h:mF t key s3=some r):bX (aU (aG aH (d+0)) KK 42 MS) 1 (mQ [0,1,6] (lH t key s3)) (GX t key r):=by
 unfold mF at h
 exact bE nB SA h (.br 13 (λ_=>.bd λx4 q4=>Ix aJ 21 q4 <| .br 25 (λ_=>.bd λx5 q5=>Ix aJ 32 q5 <| E0 [4,5]) λ_=>E0 [0,1,6]) λ_=>E0 [0])
theorem zn (d:Nat) {t:aM} {key:List UInt8} {s3:Int} {r:(Int×Bool)⊕Unit} (h:Bq t key s3=some r):bX (gq (aU (aG aH (d+0)) KK 42 MS) [0,1,6] KK) 1 (mQ [0,1,6] (lH t key s3)) (oz t key r) :=
 dL (st:=lH t key) (fin:=oz t key) (step:=mF t key) (λe=>by rcases e with e | e<;>(intro h;cases h)) (λs x h=>IB d h) KK s3 r h
def uJ (key:List UInt8) (t:aM):Option (Int×Bool) :=
 (Bq t key 0).bind λ(x6:(Int×Bool)⊕Unit)=>cond (mW x6) (some ((Bg x6).1,(Bg x6).2)) (some ((t.T.L.length:Int),false))
def Af (key:List UInt8) (t:aM) (r:Int×Bool):AV×WH:=((.tuple [(.int .i64 r.1),(.bool r.2)]),[(some (.cells (bH t) false false))])
theorem M6 (d:Nat) {key:List UInt8} {t:aM} {r:Int×Bool} (h:uJ key t=some r):Spec (aG aH (d+1)) 134 [(.ptr (some (0,0))),(.str key)] [(some (.cells (bH t) false false))] (Af key t r).1 (Af key t r).2:=by
 unfold uJ at h
 exact aW nB ala h (.bd λx6 q6=>.ite (λzO=>Lp [none,none,none] [] [] (nA (il zO) (zn (d+0) q6)) <| Fn Fo [] none) λzO=>Lp [none,none,none] [] [] (nA (D_ zO) (zn (d+0) q6)) <| Fn Fo [] none)
abbrev J3 (x2:Int×Bool) (t:aM) (o:aY):Fast×WH:=([(0,(.ptr (some (0,0)))),(3,(.ptr (some (1,0)))),(4,(.ptr (some (2,0)))),(5,(.int .i64 x2.1)),(6,(.bool x2.2))],[(some (.cells (bH t) false false)),(some (.cells (fF o) false false)),(some (.cells (dQ (⟨0,([]:List UInt8)⟩:aA)) false false))])
def IC (x2:Int×Bool) (t:aM) (o:aY):Unit⊕Unit→Ex×Fast×WH:=fun
 | .inl e=>(.ret,[(4,(.ptr (some (1,0))))],[(some (.cells (bH t) false false)),(some (.cells (dQ (⟨5,([]:List UInt8)⟩:aA)) false false))])
 | .inr e=>(.normal,[(0,(.ptr (some (0,0)))),(3,(.ptr (some (1,0)))),(4,(.ptr (some (2,0)))),(5,(.int .i64 x2.1)),(6,(.bool x2.2))],[(some (.cells (bH t) false false)),(some (.cells (fF o) false false)),(some (.cells (dQ (⟨0,([]:List UInt8)⟩:aA)) false false))])
def sj (x2:Int×Bool) (t:aM) (o:aY):Option (Unit⊕Unit) :=
 cond (!x2.2) (cond (decide ((t.T.L.length:Int)≥8)) (some (.inl ())) (some (.inr ()))) (some (.inr ()))
theorem Br (d:Nat) {x2:Int×Bool} {t:aM} {o:aY} {r:Unit⊕Unit} (h:sj x2 t o=some r):bX (aU (aG aH (d+0)) KK 147 wz) 1 (J3 x2 t o) (IC x2 t o r):=by
 unfold sj at h
 exact bE nB zi h (.br 40 (λ_=>.br 47 (λ_=>.st none <| E0 [4]) λ_=>E0 [0,3,4,5,6]) λ_=>E0 [0,3,4,5,6])
abbrev J4 (x2:Int×Bool) (x6:List au) (o:aY) (t:aM):Fast×WH:=([(0,(.ptr (some (0,0)))),(4,(.ptr (some (1,0)))),(5,(.int .i64 x2.1)),(6,(.bool x2.2)),(7,(.acc 2 0 2 (x6++[(⟨o.Key,o.Value⟩:au)]).length true))],[(some (.cells (bH t) false false)),(some (.cells (dQ (⟨0,([]:List UInt8)⟩:aA)) false false)),(some (.cells (aB (x6++[(⟨o.Key,o.Value⟩:au)])) false true))])
def IE (x2:Int×Bool) (x6:List au) (o:aY) (t:aM):Int→Ex×Fast×WH:=λe=>(.normal,[(0,(.ptr (some (0,0)))),(4,(.ptr (some (1,0)))),(5,(.int .i64 e)),(7,(.acc 2 0 2 (x6++[(⟨o.Key,o.Value⟩:au)]).length true))],[(some (.cells (bH t) false false)),(some (.cells (dQ (⟨0,([]:List UInt8)⟩:aA)) false false)),(some (.cells (aB (x6++[(⟨o.Key,o.Value⟩:au)])) false true))])
def su (x2:Int×Bool) (x6:List au) (o:aY) (t:aM):Option (Int) :=
 cond x2.2 (some (IntKind.i64.wrap (x2.1+1))) (some x2.1)
theorem Lm (d:Nat) {x2:Int×Bool} {x6:List au} {o:aY} {t:aM} {r:Int} (h:su x2 x6 o t=some r):bX (aU (aG aH (d+0)) KK 147 qO) 1 (J4 x2 x6 o t) (IE x2 x6 o t r):=by
 unfold su at h
 exact bE nB vG h (.br 65 (λ_=>E1 [0,4,5,7] [none,none,none,none] [] [.undef,.undef,.undef,.slice none 2 0 0 true]) λ_=>E1 [0,4,5,7] [none,none,none,none] [] [.undef,.undef,.undef,.slice none 2 0 0 true])
def uq (o:aY) (t:aM):Option (aA×aM) :=
 (uZ o).bind λ(x1:Bool)=>cond (!x1) (some ((⟨1,([]:List UInt8)⟩:aA),t)) ((uJ o.Key t).bind λ(x2:Int×Bool)=>cond (o.Kind==1) (cond (!x2.2) (some ((⟨4,([]:List UInt8)⟩:aA),t)) ((bW t.T.L x2.1).bind λ(x3:au)=>some ((⟨0,x3.Value⟩:aA),t))) (cond (o.Kind==2) ((sj x2 t o).bind λ(x4:Unit⊕Unit)=>cond (mW x4) (some ((⟨5,([]:List UInt8)⟩:aA),t)) ((Ku t.T.L 0 x2.1).bind λ(x6:List au)=>gd (dB 32 x6.length) (gd (dB 32 (x6++[(⟨o.Key,o.Value⟩:au)]).length) ((su x2 x6 o t).bind λ(x9:Int)=>(Ku t.T.L x9 t.T.L.length).bind λ(x10:List au)=>gd (dB 32 ((x6++[(⟨o.Key,o.Value⟩:au)])++x10).length) (some ((⟨0,([]:List UInt8)⟩:aA),(⟨(⟨((x6++[(⟨o.Key,o.Value⟩:au)])++x10)⟩:qL),t.S_,t.ID,t.Epoch⟩:aM))))))) (cond (o.Kind==3) (cond (!x2.2) (some ((⟨4,([]:List UInt8)⟩:aA),t)) ((Ku t.T.L 0 x2.1).bind λ(dI:List au)=>gd (dB 32 dI.length) ((Ku t.T.L (IntKind.i64.wrap (x2.1+1)) t.T.L.length).bind λ(kR:List au)=>gd (dB 32 (dI++kR).length) (some ((⟨0,([]:List UInt8)⟩:aA),(⟨(⟨(dI++kR)⟩:qL),t.S_,t.ID,t.Epoch⟩:aM)))))) (cond (!x2.2) (some ((⟨4,([]:List UInt8)⟩:aA),t)) ((bW t.T.L x2.1).bind λ(xQ:au)=>cond (!(xQ.Value==o.Old)) ((bW t.T.L x2.1).bind λ(ny:au)=>some ((⟨6,ny.Value⟩:aA),t)) (gd (dB 32 t.T.L.length) ((bW t.T.L x2.1).bind λ(mR:au)=>some ((⟨0,([]:List UInt8)⟩:aA),(⟨(⟨(t.T.L.set x2.1.toNat (⟨mR.Key,o.Value⟩:au))⟩:qL),t.S_,t.ID,t.Epoch⟩:aM)))))))))
def jR (o:aY) (t:aM) (r:aA×aM):AV×WH:=((.agg (dQ r.1)),[(some (.cells (bH r.2) false false))])
theorem Qo (d:Nat) {o:aY} {t:aM} {r:aA×aM} (h:uq o t=some r):Spec (aG aH (d+2)) 114 [(.ptr (some (0,0))),(.agg (fF o))] [(some (.cells (bH t) false false))] (jR o t r).1 (jR o t r).2:=by
 unfold uq at h
 exact aW nB ak8 h (.bd λx1 q1=>iF (FP (d+0) q1) <| .br 11 (λ_=>.st none <| Fn Fo [] Fo) λ_=>.bd λx2 q2=>Cl [] Fo [] (M6 (d+0) q2) <| .br 22 (λ_=>.br 25 (λ_=>.st none <| Fn Fo [] Fo) λ_=>.bd λx3 q3=>Ix aJ 32 q3 <| .st none <| Fn Fo [] Fo) λ_=>.br 36 (λ_=>.bd λx4 q4=>.ite (λhb5=>Jn [0,3,4,5,6] [none,none,none,none,none] [] [] (nA (il hb5) (Br (d+1) q4)) <| Fn Fo [] Fo) λhb5=>Jn [0,3,4,5,6] [none,none,none,none,none] [] [] (nA (D_ hb5) (Br (d+1) q4)) <| .bd λx6 q6=>Si aJ 55 q6 <| .gd λq7=>Ap0 aJ 56 q7 <| .gd λq8=>Ap aJ 64 q8 <| .bd λx9 q9=>Jn [0,4,5,6,7] [none,none,none,none,none] [] [.undef,.undef,.undef,.undef,.slice none 2 0 0 true] (Lm (d+1) q9) <| .bd λx10 Pz=>Sl aJ 75 Pz <| .gd λKE=>Ap aJ 76 KE <| .st none <| .st none <| Fn Fo [] Fo) λ_=>.br 80 (λ_=>.br 83 (λ_=>.st none <| Fn Fo [] Fo) λ_=>.bd λdI Ii=>Si aJ 92 Ii <| .gd λUv=>Ap0 aJ 93 Uv <| .er <| .ob (rfl:@Eq (Option AV) (some (bK t.T.L)) (some (bK t.T.L))) <| .bd λkR NJ=>Sl aJ 100 NJ <| .gd λRf=>Ap aJ 101 Rf <| .st none <| .st none <| Fn Fo [] Fo) λ_=>.br 105 (λ_=>.st none <| Fn Fo [] Fo) λ_=>.bd λxQ q16=>Ix aJ 115 q16 <| .br 109 (λ_=>.bd λny PO=>Ix aJ 126 PO <| .st none <| Fn Fo [] Fo) λ_=>.gd λZy=>Ap0 aJ 135 Zy <| .bd λmR PV=>Ia aJ 140 4 PV <| .st (some (aB (t.T.L.set x2.1.toNat (⟨mR.Key,o.Value⟩:au)))) <| .ob (Dq (o:=1) aJ PV rfl:Qg (aB t.T.L) (0+x2.1.toNat * 2+1) [(.str o.Value)]=some (aB (t.T.L.set x2.1.toNat (⟨mR.Key,o.Value⟩:au)))) <| .st none <| .st none <| .y8 (.fin (some false) [] (some false)) _ (λr=>@Eq AV (.agg (dQ (⟨0,([]:List UInt8)⟩:aA))) (jR o t r).1∧@Eq WH [(some (.cells [(.list 2 t.T.L.length (aB (t.T.L.set x2.1.toNat (⟨mR.Key,o.Value⟩:au))) false),(cu t.S_.L),(.int .i64 t.ID),(.int .i64 t.Epoch)] false false))] (jR o t r).2) (by show _∧_;(try rw [show AV.list 2 t.T.L.length (aB (t.T.L.set x2.1.toNat (⟨mR.Key,o.Value⟩:au))) false=bK (t.T.L.set x2.1.toNat (⟨mR.Key,o.Value⟩:au)) from by simp only [bK,List.length_set]]);refine ⟨?_, ?_⟩<;>first | rfl | (simp only [jR,List.length_set,List.length_append,List.length_replicate,List.length_cons,List.length_nil,List.length_take,List.length_drop,Nat.add_zero,Nat.zero_add];done) | simp [jR]))
end Go.Proofs.YtohoggieaanllaaGreat
