import Derived.Test.YtohoggieaanllaaGreatXt
import Derived.Test.YtohoggieaanllaaGreatXs
import Derived.Test.YtohoggieaanllaaGreatY5
set_option linter.all false
set_option maxRecDepth 100000
namespace Go.Proofs.YtohoggieaanllaaGreat
abbrev abR (s11:Int×Int) (cu:UInt8) (aY:List UInt8):Fast×WH:=([(0,(oU aY)),(5,(.int .i64 s11.1)),(6,(.int .i64 s11.2)),(7,(.int .i64 (IntKind.i64.wrap (cu.toNat:Int))))],[])
def aav (s11:Int×Int) (cu:UInt8) (aY:List UInt8):Bool→Ex×Fast×WH:=λe=>(.normal,[(0,(oU aY)),(5,(.int .i64 s11.1)),(6,(.int .i64 s11.2)),(7,(.int .i64 (IntKind.i64.wrap (cu.toNat:Int)))),(29,(.bool e))],[])
def R4 (s11:Int×Int) (cu:UInt8) (aY:List UInt8):Option (Bool) :=
 cond (s11.2==9) (some true) (cond (s11.2==8) (some (decide ((Int.tmod (IntKind.i64.wrap (cu.toNat:Int)) 128)≥64))) (some false))
theorem aeL (d:Nat) {s11:Int×Int} {cu:UInt8} {aY:List UInt8} {r:Bool} (h:R4 s11 cu aY=some r):bJ (aU (aB aH (d+0)) KK 56 FD) 0 (abR s11 cu aY) (aav s11 cu aY r):=by
 unfold R4 at h
 exact bA nB MO h (.br 21 (λ_=>E0 [0,5,6,7,29]) λ_=>.br 24 (λ_=>E0 [0,5,6,7,29]) λ_=>E0 [0,5,6,7,29])
abbrev abS (s11:Int×Int) (cu:UInt8) (aY:List UInt8):Fast×WH:=([(0,(oU aY)),(5,(.int .i64 s11.1)),(6,(.int .i64 s11.2)),(7,(.int .i64 (IntKind.i64.wrap (cu.toNat:Int))))],[])
def aaw (s11:Int×Int) (cu:UInt8) (aY:List UInt8):Int⊕Unit→Ex×Fast×WH:=fun
 | .inl e=>(.ret,[(2,(.int .i64 0)),(3,(.slice none 1 0 0 true)),(4,(.int .i64 e))],[])
 | .inr e=>(.normal,[(0,(oU aY)),(5,(.int .i64 s11.1)),(6,(.int .i64 s11.2)),(7,(.int .i64 (IntKind.i64.wrap (cu.toNat:Int))))],[])
def R5 (s11:Int×Int) (cu:UInt8) (aY:List UInt8):Option (Int⊕Unit) :=
 (R4 s11 cu aY).bind λ(qJ:Bool)=>cond qJ ((aeK aY s11.2).bind λ(lH:Int)=>some (.inl lH)) (some (.inr ()))
theorem Uv (d:Nat) {s11:Int×Int} {cu:UInt8} {aY:List UInt8} {r:Int⊕Unit} (h:R5 s11 cu aY=some r):bJ (aU (aB aH (d+1)) KK 56 Hy) 0 (abS s11 cu aY) (aaw s11 cu aY r):=by
 unfold R5 at h
 exact bA nB NH h (.bd λqJ XA=>Jn [0,5,6,7] [none,none,none,none] [] [] (aeL (d+1) XA) <| .br 29 (λ_=>.bd λlH LW=>iA (alT (d+0) LW) <| E0 [2,3,4]) λ_=>E0 [0,5,6,7])
abbrev abT (cu:UInt8) (s11:Int×Int) (aY:List UInt8) (iU:Int):Fast×WH:=([(0,(oU aY)),(5,(.int .i64 (IntKind.i64.wrap (s11.1+iU)))),(6,(.int .i64 s11.2)),(7,(.int .i64 (IntKind.i64.wrap (cu.toNat:Int))))],[])
def aax (cu:UInt8) (s11:Int×Int) (aY:List UInt8) (iU:Int):Unit⊕Unit→Ex×Fast×WH:=fun
 | .inl e=>(.ret,[(2,(.int .i64 0)),(3,(.slice none 1 0 0 true)),(4,(.int .i64 2))],[])
 | .inr e=>(.normal,[(0,(oU aY)),(5,(.int .i64 (IntKind.i64.wrap (s11.1+iU)))),(6,(.int .i64 s11.2))],[])
def R6 (cu:UInt8) (s11:Int×Int) (aY:List UInt8) (iU:Int):Option (Unit⊕Unit) :=
 cond ((IntKind.i64.wrap (cu.toNat:Int))==0) (cond (decide (s11.2 > 0)) (some (.inl ())) (some (.inr ()))) (some (.inr ()))
theorem Uw (d:Nat) {cu:UInt8} {s11:Int×Int} {aY:List UInt8} {iU:Int} {r:Unit⊕Unit} (h:R6 cu s11 aY iU=some r):bJ (aU (aB aH (d+0)) KK 56 C8) 0 (abT cu s11 aY iU) (aax cu s11 aY iU r):=by
 unfold R6 at h
 exact bA nB JH h (.br 45 (λ_=>.br 48 (λ_=>E0 [2,3,4]) λ_=>E0 [0,5,6]) λ_=>E0 [0,5,6])
def mR (aY:List UInt8) (s11:Int×Int):List AV×WH:=([(oU aY),(.int .i64 s11.1),(.int .i64 s11.2)],[])
def nM (aY:List UInt8):(Int×Int×List UInt8)⊕Unit→Ex×Fast×WH:=fun
 | .inl e=>(.ret,[(2,(.int .i64 e.1)),(3,(.acc 0 0 1 e.2.2.length true)),(4,(.int .i64 e.2.1))],[(some (.cells (ML e.2.2) false true))])
 | .inr e=>((.exit 0),[],[])
abbrev jc (aY:List UInt8):=dx [0,5,6] (mR aY) (nM aY)
def ER (aY:List UInt8) (s11:Int×Int):Option ((Int×Int)⊕((Int×Int×List UInt8)⊕Unit)) :=
 cond (decide (s11.2 < (aY.length:Int))) ((bO aY s11.2).bind λ(cu:UInt8)=>(R5 s11 cu aY).bind λ(bR:Int⊕Unit)=>cond (jI bR) (some (.inr (.inl (0,(CV bR),[])))) ((akX .i64 (Int.tmod (IntKind.i64.wrap (cu.toNat:Int)) 128) (IntKind.u64.wrap (IntKind.i64.wrap (7 * s11.2)))).bind λ(iU:Int)=>cond (decide ((IntKind.i64.wrap (cu.toNat:Int))≥128)) (some (.inl ((IntKind.i64.wrap (s11.1+iU)),(IntKind.i64.wrap (s11.2+1))))) ((R6 cu s11 aY iU).bind λ(x18:Unit⊕Unit)=>cond (jI x18) (some (.inr (.inl (0,2,[])))) ((LQ aY (IntKind.i64.wrap (s11.2+1)) aY.length).bind λ(x20:List UInt8)=>gd (dh 1 x20.length) (some (.inr (.inl ((IntKind.i64.wrap (s11.1+iU)),0,x20)))))))) (some (.inr (.inr ())))
def aay (aY:List UInt8) (s11:Int×Int):Option ((Int×Int×List UInt8)⊕Unit):=bT (ER aY) KK s11
theorem aeM (d:Nat) {aY:List UInt8} {s11:Int×Int} {r:(Int×Int)⊕((Int×Int×List UInt8)⊕Unit)} (h:ER aY s11=some r):bJ (aU (aB aH (d+1)) KK 56 aea) 0 (jg [0,5,6] (mR aY s11)) (jc aY r):=by
 unfold ER at h
 exact bA nB aiX h (.br 11 (λ_=>.bd λcu KZ=>Ix UK 16 KZ <| .bd λbR KC=>.ite (λZ5=>Jn [0,5,6,7] [none,none,none,none] [] [] (jA (il Z5) (Uv (d+0) KC)) <| .xP (.en [2,3,4] [none,(some true),none] [] []) _ (λr=>(.ret=(jc aY r).1∧[(2,(.int .i64 0)),(3,(.acc 0 0 1 0 true)),(4,(.int .i64 (CV bR)))]=(jc aY r).2.1∧[(some (.cells (ML []) false true))]=(jc aY r).2.2)) (by show _∧_∧_;refine ⟨rfl, ?_, ?_⟩<;>first | rfl | (simp only [jc,dx,kQ,nM,mR,List.length_set,List.length_append,List.length_replicate,List.length_cons,List.length_nil,Nat.add_zero,Nat.zero_add];done) | simp [jc,dx,kQ,nM,mR,oU])) λZ5=>Jn [0,5,6,7] [none,none,none,none] [] [] (jA (zy Z5) (Uv (d+0) KC)) <| .bd λiU GH=>.v 39 (.int .i64 iU) <| .ob (am9 GH:UL .shl (.int .i64 (Int.tmod (IntKind.i64.wrap (cu.toNat:Int)) 128)) (.int .u64 (IntKind.u64.wrap (IntKind.i64.wrap (7 * s11.2))))=some (.int .i64 iU)) <| .br 42 (λ_=>E0 [0,5,6]) λ_=>.bd λx18 Vk=>.ite (λajf=>Jn [0,5,6,7] [none,none,none,none] [] [] (jA (il ajf) (Uw (d+1) Vk)) <| .xP (.en [2,3,4] [none,(some true),none] [] []) _ (λr=>(.ret=(jc aY r).1∧[(2,(.int .i64 0)),(3,(.acc 0 0 1 0 true)),(4,(.int .i64 2))]=(jc aY r).2.1∧[(some (.cells (ML []) false true))]=(jc aY r).2.2)) (by show _∧_∧_;refine ⟨rfl, ?_, ?_⟩<;>first | rfl | (simp only [jc,dx,kQ,nM,mR,List.length_set,List.length_append,List.length_replicate,List.length_cons,List.length_nil,Nat.add_zero,Nat.zero_add];done) | simp [jc,dx,kQ,nM,mR,oU])) λajf=>Jn [0,5,6,7] [none,none,none,none] [] [] (jA (zy ajf) (Uw (d+1) Vk)) <| .bd λx20 q20=>Sl UK 54 q20 <| .gd λq21=>Ap0 UK 55 q21 <| E1 [2,3,4] [none,Tw,none] [] []) λ_=>E0 [])
theorem Ux (d:Nat) {aY:List UInt8} {s11:Int×Int} {r:(Int×Int×List UInt8)⊕Unit} (h:aay aY s11=some r):bJ (eu (aU (aB aH (d+1)) KK 56 aea) [0,5,6] KK) 0 (jg [0,5,6] (mR aY s11)) (nM aY r) :=
 bY (st:=mR aY) (fin:=nM aY) (step:=ER aY) (λe=>by rcases e with e | e<;>(intro h;cases h)) (λs x h=>aeM d h) KK s11 r h
def Yy (aY:List UInt8):Option (Int×List UInt8×Int) :=
 (aay aY (0,0)).bind λ(Fa:(Int×Int×List UInt8)⊕Unit)=>cond (jI Fa) (some ((CV Fa).1,(CV Fa).2.2,(CV Fa).2.1)) (some (0,[],3))
def Xe (aY:List UInt8) (r:Int×List UInt8×Int):AV×WH:=((.tuple [(.int .i64 r.1),(oU r.2.1),(.int .i64 r.2.2)]),[])
theorem adg (d:Nat) {aY:List UInt8} {r:Int×List UInt8×Int} (h:Yy aY=some r):Spec (aB aH (d+2)) 106 [(oU aY)] [] (Xe aY r).1 (Xe aY r).2:=by
 unfold Yy at h
 exact aX nB awP h (.bd λFa q22=>.ite (λavU=>Lp [none,none,none] [] [] (jA (il avU) (Ux (d+0) q22)) <| Fn Fo [] none) λavU=>Lp [none,none,none] [] [] (jA (zy avU) (Ux (d+0) q22)) <| Fn Fo [] none)
def jd (p_r:aJ):Option (Int×aJ) :=
 cond (p_r.E != 0) (some (0,p_r)) ((Yy p_r.B).bind λ(x1:Int×List UInt8×Int)=>some (x1.1,(⟨x1.2.1,x1.2.2⟩:aJ)))
def Io (p_r:aJ) (r:Int×aJ):AV×WH:=((.int .i64 r.1),[(some (.cells (dS r.2) false false))])
theorem jk (d:Nat) {p_r:aJ} {r:Int×aJ} (h:jd p_r=some r):Spec (aB aH (d+3)) 66 [(.ptr (some (0,0)))] [(some (.cells (dS p_r) false false))] (Io p_r r).1 (Io p_r r).2:=by
 unfold jd at h
 exact aX nB ayC h (.br 10 (λ_=>Fn Fo [] none) λ_=>.bd λx1 q1=>Cl [] Fo [] (adg (d+0) q1) <| .st none <| .st none <| Fn Fo [] none)
def qR (p_e:Int) (p_r:aJ):Option (aJ) :=
 cond (p_r.E==0) (some (⟨p_r.B,p_e⟩:aJ)) (some p_r)
def Gj (p_e:Int) (p_r:aJ) (r:aJ):AV×WH:=((.tuple []),[(some (.cells (dS r) false false))])
theorem wS (d:Nat) {p_e:Int} {p_r:aJ} {r:aJ} (h:qR p_e p_r=some r):Spec (aB aH (d+1)) 108 [(.ptr (some (0,0))),(.int .i64 p_e)] [(some (.cells (dS p_r) false false))] (Gj p_e p_r r).1 (Gj p_e p_r r).2:=by
 unfold qR at h
 exact aX nB awR h (.br 8 (λ_=>.st none <| Fn Fo [] none) λ_=>Fn Fo [] none)
abbrev MX (x1:Int×aJ) (most:Int):Fast×WH:=([(0,(.ptr (some (0,0)))),(1,(.int .i64 most)),(5,(.int .i64 x1.1))],[(some (.cells (dS x1.2) false false))])
def Lg (x1:Int×aJ) (most:Int):aJ→Ex×Fast×WH:=λe=>(.normal,[(0,(.ptr (some (0,0)))),(5,(.int .i64 x1.1))],[(some (.cells (dS e) false false))])
def zm (x1:Int×aJ) (most:Int):Option (aJ) :=
 cond (decide (x1.1 > most)) ((qR 2 x1.2).bind λ(x2:aJ)=>some x2) (some x1.2)
theorem OX (d:Nat) {x1:Int×aJ} {most:Int} {r:aJ} (h:zm x1 most=some r):bJ (aU (aB aH (d+1)) KK 19 afZ) 1 (MX x1 most) (Lg x1 most r):=by
 unfold zm at h
 exact bA nB af0 h (.br 10 (λ_=>.bd λx2 q2=>Cl [] Fo [] (wS (d+0) q2) <| E0 [0,5]) λ_=>E0 [0,5])
def yM (most:Int) (p_r:aJ):Option (Int×aJ) :=
 (jd p_r).bind λ(x1:Int×aJ)=>(zm x1 most).bind λ(x3:aJ)=>cond (x3.E != 0) (some (0,x3)) (some (x1.1,x3))
def Ev (most:Int) (p_r:aJ) (r:Int×aJ):AV×WH:=((.int .i64 r.1),[(some (.cells (dS r.2) false false))])
theorem Ip (d:Nat) {most:Int} {p_r:aJ} {r:Int×aJ} (h:yM most p_r=some r):Spec (aB aH (d+4)) 70 [(.ptr (some (0,0))),(.int .i64 most)] [(some (.cells (dS p_r) false false))] (Ev most p_r r).1 (Ev most p_r r).2:=by
 unfold yM at h
 exact aX nB ayF h (.bd λx1 q1=>Cl [] Fo [] (jk (d+0) q1) <| .bd λx3 q3=>Jn [0,1,5] [none,none,none] [] [] (OX (d+2) q3) <| .br 17 (λ_=>Fn Fo [] none) λ_=>Fn Fo [] none)
def OY (aY:List UInt8):Option (List UInt8×List UInt8×Int) :=
 (Yy aY).bind λ(x1:Int×List UInt8×Int)=>cond (x1.2.2 != 0) (some (([]:List UInt8),[],x1.2.2)) (cond (decide (x1.1 > (x1.2.1.length:Int))) (some (([]:List UInt8),[],3)) ((LQ x1.2.1 x1.1 x1.2.1.length).bind λ(x2:List UInt8)=>gd (dh 1 x2.length) ((LQ x1.2.1 0 x1.1).bind λ(x4:List UInt8)=>some (x4,x2,0))))
def Mr (aY:List UInt8) (r:List UInt8×List UInt8×Int):AV×WH:=((.tuple [(.str r.1),(oU r.2.1),(.int .i64 r.2.2)]),[])
theorem abU (d:Nat) {aY:List UInt8} {r:List UInt8×List UInt8×Int} (h:OY aY=some r):Spec (aB aH (d+3)) 133 [(oU aY)] [] (Mr aY r).1 (Mr aY r).2:=by
 unfold OY at h
 exact aX nB axb h (.bd λx1 q1=>Cl [] Fo [] (adg (d+0) q1) <| .br 15 (λ_=>Fn Fo [] none) λ_=>.br 20 (λ_=>Fn Fo [] none) λ_=>.bd λx2 q2=>Sl UK 28 q2 <| .gd λq3=>Ap0 UK 29 q3 <| .bd λx4 q4=>Si UK 23 q4 <| .v 24 (.str x4) <| .ob (by rw [show ML x4=(x4).map JD from rfl,Ns];rfl:(kN (ML x4)).map AV.str=some (.str x4)) <| Fn Fo [] none)
def lF (p_r:aJ):Option (List UInt8×aJ) :=
 cond (p_r.E != 0) (some (([]:List UInt8),p_r)) ((OY p_r.B).bind λ(x1:List UInt8×List UInt8×Int)=>some (x1.1,(⟨x1.2.1,x1.2.2⟩:aJ)))
def Gl (p_r:aJ) (r:List UInt8×aJ):AV×WH:=((.str r.1),[(some (.cells (dS r.2) false false))])
theorem m_ (d:Nat) {p_r:aJ} {r:List UInt8×aJ} (h:lF p_r=some r):Spec (aB aH (d+4)) 107 [(.ptr (some (0,0)))] [(some (.cells (dS p_r) false false))] (Gl p_r r).1 (Gl p_r r).2:=by
 unfold lF at h
 exact aX nB awQ h (.br 10 (λ_=>Fn Fo [] none) λ_=>.bd λx1 q1=>Cl [] Fo [] (abU (d+0) q1) <| .st none <| .st none <| Fn Fo [] none)
def Q5 (p_r:aJ):Option (bn×aJ) :=
 (jd p_r).bind λ(x1:Int×aJ)=>(jd x1.2).bind λ(x2:Int×aJ)=>(jd x2.2).bind λ(x3:Int×aJ)=>(lF x3.2).bind λ(x4:List UInt8×aJ)=>(lF x4.2).bind λ(x5:List UInt8×aJ)=>(lF x5.2).bind λ(x6:List UInt8×aJ)=>(qL (⟨x1.1,x2.1,(⟨x3.1,x4.1,x5.1,x6.1⟩:bD)⟩:bn)).bind λ(x7:Bool)=>cond (!x7) ((qR 2 x6.2).bind λ(x8:aJ)=>some ((⟨x1.1,x2.1,(⟨x3.1,x4.1,x5.1,x6.1⟩:bD)⟩:bn),x8)) (some ((⟨x1.1,x2.1,(⟨x3.1,x4.1,x5.1,x6.1⟩:bD)⟩:bn),x6.2))
def Iq (p_r:aJ) (r:bn×aJ):AV×WH:=((.agg (sO r.1)),[(some (.cells (dS r.2) false false))])
theorem ama (d:Nat) {p_r:aJ} {r:bn×aJ} (h:Q5 p_r=some r):Spec (aB aH (d+5)) 68 [(.ptr (some (0,0)))] [(some (.cells (dS p_r) false false))] (Iq p_r r).1 (Iq p_r r).2:=by
 unfold Q5 at h
 exact aX nB ayD h (.bd λx1 q1=>Cl [] Fo [] (jk (d+1) q1) <| .bd λx2 q2=>Cl [] Fo [] (jk (d+1) q2) <| .st none <| .bd λx3 q3=>Cl [] Fo [] (jk (d+1) q3) <| .st none <| .bd λx4 q4=>Cl [] Fo [] (m_ (d+0) q4) <| .st none <| .bd λx5 q5=>Cl [] Fo [] (m_ (d+0) q5) <| .st none <| .bd λx6 q6=>Cl [] Fo [] (m_ (d+0) q6) <| .st none <| .bd λx7 q7=>iA (C_ (d+1) q7) <| .br 27 (λ_=>.bd λx8 q8=>Cl [] Fo [] (wS (d+3) q8) <| .st none <| Fn Fo [] none) λ_=>.st none <| Fn Fo [] none)
def Cg (p_r:aJ):Option (aD×aJ) :=
 (jd p_r).bind λ(x1:Int×aJ)=>(lF x1.2).bind λ(x2:List UInt8×aJ)=>(wz (⟨x1.1,x2.1⟩:aD)).bind λ(x3:Bool)=>cond (!x3) ((qR 2 x2.2).bind λ(x4:aJ)=>some ((⟨x1.1,x2.1⟩:aD),x4)) (some ((⟨x1.1,x2.1⟩:aD),x2.2))
def Dx (p_r:aJ) (r:aD×aJ):AV×WH:=((.agg (dQ r.1)),[(some (.cells (dS r.2) false false))])
theorem R7 (d:Nat) {p_r:aJ} {r:aD×aJ} (h:Cg p_r=some r):Spec (aB aH (d+5)) 69 [(.ptr (some (0,0)))] [(some (.cells (dS p_r) false false))] (Dx p_r r).1 (Dx p_r r).2:=by
 unfold Cg at h
 exact aX nB ayE h (.bd λx1 q1=>Cl [] Fo [] (jk (d+1) q1) <| .bd λx2 q2=>Cl [] Fo [] (m_ (d+0) q2) <| .st none <| .bd λx3 q3=>iA (FN (d+3) q3) <| .br 11 (λ_=>.bd λx4 q4=>Cl [] Fo [] (wS (d+3) q4) <| .st none <| Fn Fo [] none) λ_=>.st none <| Fn Fo [] none)
abbrev MZ (qA:Int×aJ×List au) (x1:Int×aJ) (x2:Int×aJ):Fast×WH:=([(0,(.ptr (some (0,0)))),(2,(.ptr (some (1,0)))),(3,(.ptr (some (2,0)))),(4,(.int .i64 qA.1))],[(some (.cells (dS qA.2.1) false false)),(some (.cells [(.int .i64 0),(.int .i64 0),(.acc 3 0 2 0 true),(.acc 4 0 4 0 true)] false false)),(some (.cells [(.int .i64 x1.1),(.int .i64 x2.1),(.acc 5 0 2 qA.2.2.length true),(.acc 6 0 4 0 true)] false false)),(some (.cells (aC []) false true)),(some (.cells (aO []) false true)),(some (.cells (aC qA.2.2) false true)),(some (.cells (aO []) false true))])
def Lh (qA:Int×aJ×List au) (x1:Int×aJ) (x2:Int×aJ):Unit⊕Unit→Ex×Fast×WH:=fun
 | .inl e=>(.normal,[(0,(.ptr (some (0,0)))),(2,(.ptr (some (1,0)))),(3,(.ptr (some (2,0)))),(4,(.int .i64 qA.1))],[(some (.cells (dS qA.2.1) false false)),(some (.cells [(.int .i64 0),(.int .i64 0),(.acc 3 0 2 0 true),(.acc 4 0 4 0 true)] false false)),(some (.cells [(.int .i64 x1.1),(.int .i64 x2.1),(.acc 5 0 2 qA.2.2.length true),(.acc 6 0 4 0 true)] false false)),(some (.cells (aC []) false true)),(some (.cells (aO []) false true)),(some (.cells (aC qA.2.2) false true)),(some (.cells (aO []) false true))])
 | .inr e=>((.exit 0),[(0,(.ptr (some (0,0)))),(2,(.ptr (some (1,0)))),(3,(.ptr (some (2,0))))],[(some (.cells (dS qA.2.1) false false)),(some (.cells [(.int .i64 0),(.int .i64 0),(.acc 3 0 2 0 true),(.acc 4 0 4 0 true)] false false)),(some (.cells [(.int .i64 x1.1),(.int .i64 x2.1),(.acc 5 0 2 qA.2.2.length true),(.acc 6 0 4 0 true)] false false)),(some (.cells (aC []) false true)),(some (.cells (aO []) false true)),(some (.cells (aC qA.2.2) false true)),(some (.cells (aO []) false true))])
def zn (qA:Int×aJ×List au) (x1:Int×aJ) (x2:Int×aJ):Option (Unit⊕Unit) :=
 cond (decide (qA.1 > 0)) (cond (qA.2.1.E==0) (some (.inl ())) (some (.inr ()))) (some (.inr ()))
theorem Dy (d:Nat) {qA:Int×aJ×List au} {x1:Int×aJ} {x2:Int×aJ} {r:Unit⊕Unit} (h:zn qA x1 x2=some r):bJ (aU (aB aH (d+0)) KK 65 Tn) 1 (MZ qA x1 x2) (Lh qA x1 x2 r):=by
 unfold zn at h
 exact bA nB Xw h (.br 15 (λ_=>.br 21 (λ_=>E0 [0,2,3,4]) λ_=>E0 [0,2,3]) λ_=>E0 [0,2,3])
def nZ (x1:Int×aJ) (x2:Int×aJ) (qA:Int×aJ×List au):List AV×WH:=([(.ptr (some (0,0))),(.ptr (some (1,0))),(.ptr (some (2,0))),(.int .i64 qA.1)],[(some (.cells (dS qA.2.1) false false)),(some (.cells [(.int .i64 0),(.int .i64 0),(.acc 3 0 2 0 true),(.acc 4 0 4 0 true)] false false)),(some (.cells [(.int .i64 x1.1),(.int .i64 x2.1),(.acc 5 0 2 qA.2.2.length true),(.acc 6 0 4 0 true)] false false)),(some (.cells (aC []) false true)),(some (.cells (aO []) false true)),(some (.cells (aC qA.2.2) false true)),(some (.cells (aO []) false true))])
def r_ (x1:Int×aJ) (x2:Int×aJ):(aJ×List au)→Ex×Fast×WH:=λe=>((.exit 0),[(0,(.ptr (some (0,0)))),(2,(.ptr (some (1,0)))),(3,(.ptr (some (2,0))))],[(some (.cells (dS e.1) false false)),(some (.cells [(.int .i64 0),(.int .i64 0),(.acc 3 0 2 0 true),(.acc 4 0 4 0 true)] false false)),(some (.cells [(.int .i64 x1.1),(.int .i64 x2.1),(.acc 5 0 2 e.2.length true),(.acc 6 0 4 0 true)] false false)),(some (.cells (aC []) false true)),(some (.cells (aO []) false true)),(some (.cells (aC e.2) false true)),(some (.cells (aO []) false true))])
abbrev M4 (x1:Int×aJ) (x2:Int×aJ):=dx [0,2,3,4] (nZ x1 x2) (r_ x1 x2)
def pV (x1:Int×aJ) (x2:Int×aJ) (qA:Int×aJ×List au):Option ((Int×aJ×List au)⊕((aJ×List au))) :=
 (zn qA x1 x2).bind λ(bR:Unit⊕Unit)=>cond (jI bR) ((lF qA.2.1).bind λ(iU:List UInt8×aJ)=>(lF iU.2).bind λ(x18:List UInt8×aJ)=>gd (dh 32 (qA.2.2++[(⟨iU.1,x18.1⟩:au)]).length) (some (.inl ((IntKind.i64.wrap (qA.1 - 1)),x18.2,(qA.2.2++[(⟨iU.1,x18.1⟩:au)]))))) (some (.inr (qA.2.1,qA.2.2)))
def Gm (x1:Int×aJ) (x2:Int×aJ) (qA:Int×aJ×List au):Option ((aJ×List au)):=bT (pV x1 x2) KK qA
theorem OZ (d:Nat) {x1:Int×aJ} {x2:Int×aJ} {qA:Int×aJ×List au} {r:(Int×aJ×List au)⊕((aJ×List au))} (h:pV x1 x2 qA=some r):bJ (aU (aB aH (d+4)) KK 65 aiG) 1 (jg [0,2,3,4] (nZ x1 x2 qA)) (M4 x1 x2 r):=by
 unfold pV at h
 exact bA nB alD h (.bd λbR KC=>.ite (λZ5=>Jn [0,2,3,4] [none,none,none,none] [] [] (jA (il Z5) (Dy (d+4) KC)) <| .bd λiU GH=>Cl [] Fo [] (m_ (d+0) GH) <| .bd λx18 Vk=>Cl [] Fo [] (m_ (d+0) Vk) <| .gd λQG=>Ap aQ 32 QG <| .st none <| E0 [0,2,3,4]) λZ5=>Jn [0,2,3,4] [none,none,none,none] [] [] (jA (zy Z5) (Dy (d+4) KC)) <| E0 [0,2,3])
theorem O4 (d:Nat) {x1:Int×aJ} {x2:Int×aJ} {qA:Int×aJ×List au} {r:(aJ×List au)} (h:Gm x1 x2 qA=some r):bJ (eu (aU (aB aH (d+4)) KK 65 aiG) [0,2,3,4] KK) 1 (jg [0,2,3,4] (nZ x1 x2 qA)) (r_ x1 x2 r) :=
 bY (st:=nZ x1 x2) (fin:=r_ x1 x2) (step:=pV x1 x2) (λe=>by (intro h;cases h)) (λs x h=>OZ d h) KK qA r h
abbrev M5 (Kt:Int×aJ×List ak) (x1:Int×aJ) (x2:Int×aJ) (x20:(aJ×List au)):Fast×WH:=([(0,(.ptr (some (0,0)))),(2,(.ptr (some (1,0)))),(3,(.ptr (some (2,0)))),(5,(.int .i64 Kt.1))],[(some (.cells (dS Kt.2.1) false false)),(some (.cells [(.int .i64 0),(.int .i64 0),(.acc 3 0 2 0 true),(.acc 4 0 4 0 true)] false false)),(some (.cells [(.int .i64 x1.1),(.int .i64 x2.1),(.acc 5 0 2 x20.2.length true),(.acc 6 0 4 Kt.2.2.length true)] false false)),(some (.cells (aC []) false true)),(some (.cells (aO []) false true)),(some (.cells (aC x20.2) false true)),(some (.cells (aO Kt.2.2) false true))])
def Li (Kt:Int×aJ×List ak) (x1:Int×aJ) (x2:Int×aJ) (x20:(aJ×List au)):Unit⊕Unit→Ex×Fast×WH:=fun
 | .inl e=>(.normal,[(0,(.ptr (some (0,0)))),(2,(.ptr (some (1,0)))),(3,(.ptr (some (2,0)))),(5,(.int .i64 Kt.1))],[(some (.cells (dS Kt.2.1) false false)),(some (.cells [(.int .i64 0),(.int .i64 0),(.acc 3 0 2 0 true),(.acc 4 0 4 0 true)] false false)),(some (.cells [(.int .i64 x1.1),(.int .i64 x2.1),(.acc 5 0 2 x20.2.length true),(.acc 6 0 4 Kt.2.2.length true)] false false)),(some (.cells (aC []) false true)),(some (.cells (aO []) false true)),(some (.cells (aC x20.2) false true)),(some (.cells (aO Kt.2.2) false true))])
 | .inr e=>((.exit 2),[(0,(.ptr (some (0,0)))),(2,(.ptr (some (1,0)))),(3,(.ptr (some (2,0))))],[(some (.cells (dS Kt.2.1) false false)),(some (.cells [(.int .i64 0),(.int .i64 0),(.acc 3 0 2 0 true),(.acc 4 0 4 0 true)] false false)),(some (.cells [(.int .i64 x1.1),(.int .i64 x2.1),(.acc 5 0 2 x20.2.length true),(.acc 6 0 4 Kt.2.2.length true)] false false)),(some (.cells (aC []) false true)),(some (.cells (aO []) false true)),(some (.cells (aC x20.2) false true)),(some (.cells (aO Kt.2.2) false true))])
def zo (Kt:Int×aJ×List ak) (x1:Int×aJ) (x2:Int×aJ) (x20:(aJ×List au)):Option (Unit⊕Unit) :=
 cond (decide (Kt.1 > 0)) (cond (Kt.2.1.E==0) (some (.inl ())) (some (.inr ()))) (some (.inr ()))
theorem Dz (d:Nat) {Kt:Int×aJ×List ak} {x1:Int×aJ} {x2:Int×aJ} {x20:(aJ×List au)} {r:Unit⊕Unit} (h:zo Kt x1 x2 x20=some r):bJ (aU (aB aH (d+0)) KK 65 QA) 1 (M5 Kt x1 x2 x20) (Li Kt x1 x2 x20 r):=by
 unfold zo at h
 exact bA nB Vg h (.br 38 (λ_=>.br 44 (λ_=>E0 [0,2,3,5]) λ_=>E0 [0,2,3]) λ_=>E0 [0,2,3])
def n_ (x1:Int×aJ) (x2:Int×aJ) (x20:(aJ×List au)) (Kt:Int×aJ×List ak):List AV×WH:=([(.ptr (some (0,0))),(.ptr (some (1,0))),(.ptr (some (2,0))),(.int .i64 Kt.1)],[(some (.cells (dS Kt.2.1) false false)),(some (.cells [(.int .i64 0),(.int .i64 0),(.acc 3 0 2 0 true),(.acc 4 0 4 0 true)] false false)),(some (.cells [(.int .i64 x1.1),(.int .i64 x2.1),(.acc 5 0 2 x20.2.length true),(.acc 6 0 4 Kt.2.2.length true)] false false)),(some (.cells (aC []) false true)),(some (.cells (aO []) false true)),(some (.cells (aC x20.2) false true)),(some (.cells (aO Kt.2.2) false true))])
def sj (x1:Int×aJ) (x2:Int×aJ) (x20:(aJ×List au)):(aJ×List ak)→Ex×Fast×WH:=λe=>((.exit 2),[(0,(.ptr (some (0,0)))),(2,(.ptr (some (1,0)))),(3,(.ptr (some (2,0))))],[(some (.cells (dS e.1) false false)),(some (.cells [(.int .i64 0),(.int .i64 0),(.acc 3 0 2 0 true),(.acc 4 0 4 0 true)] false false)),(some (.cells [(.int .i64 x1.1),(.int .i64 x2.1),(.acc 5 0 2 x20.2.length true),(.acc 6 0 4 e.2.length true)] false false)),(some (.cells (aC []) false true)),(some (.cells (aO []) false true)),(some (.cells (aC x20.2) false true)),(some (.cells (aO e.2) false true))])
abbrev M6 (x1:Int×aJ) (x2:Int×aJ) (x20:(aJ×List au)):=dx [0,2,3,5] (n_ x1 x2 x20) (sj x1 x2 x20)
def pW (x1:Int×aJ) (x2:Int×aJ) (x20:(aJ×List au)) (Kt:Int×aJ×List ak):Option ((Int×aJ×List ak)⊕((aJ×List ak))) :=
 (zo Kt x1 x2 x20).bind λ(x29:Unit⊕Unit)=>cond (jI x29) ((jd Kt.2.1).bind λ(x31:Int×aJ)=>(jd x31.2).bind λ(x32:Int×aJ)=>(Cg x32.2).bind λ(x33:aD×aJ)=>gd (dh 40 (Kt.2.2++[(⟨x31.1,x32.1,x33.1⟩:ak)]).length) (some (.inl ((IntKind.i64.wrap (Kt.1 - 1)),x33.2,(Kt.2.2++[(⟨x31.1,x32.1,x33.1⟩:ak)]))))) (some (.inr (Kt.2.1,Kt.2.2)))
def Gn (x1:Int×aJ) (x2:Int×aJ) (x20:(aJ×List au)) (Kt:Int×aJ×List ak):Option ((aJ×List ak)):=bT (pW x1 x2 x20) KK Kt
theorem O5 (d:Nat) {x1:Int×aJ} {x2:Int×aJ} {x20:(aJ×List au)} {Kt:Int×aJ×List ak} {r:(Int×aJ×List ak)⊕((aJ×List ak))} (h:pW x1 x2 x20 Kt=some r):bJ (aU (aB aH (d+5)) KK 65 aiH) 1 (jg [0,2,3,5] (n_ x1 x2 x20 Kt)) (M6 x1 x2 x20 r):=by
 unfold pW at h
 exact bA nB alE h (.bd λx29 q29=>.ite (λajg=>Jn [0,2,3,5] [none,none,none,none] [] [] (jA (il ajg) (Dz (d+5) q29)) <| .bd λx31 q31=>Cl [] Fo [] (jk (d+2) q31) <| .bd λx32 q32=>Cl [] Fo [] (jk (d+2) q32) <| .bd λx33 q33=>Cl [] Fo [] (R7 (d+0) q33) <| .gd λq34=>Ap bS 57 q34 <| .st none <| E0 [0,2,3,5]) λajg=>Jn [0,2,3,5] [none,none,none,none] [] [] (jA (zy ajg) (Dz (d+5) q29)) <| E0 [0,2,3])
theorem O6 (d:Nat) {x1:Int×aJ} {x2:Int×aJ} {x20:(aJ×List au)} {Kt:Int×aJ×List ak} {r:(aJ×List ak)} (h:Gn x1 x2 x20 Kt=some r):bJ (eu (aU (aB aH (d+5)) KK 65 aiH) [0,2,3,5] KK) 1 (jg [0,2,3,5] (n_ x1 x2 x20 Kt)) (sj x1 x2 x20 r) :=
 bY (st:=n_ x1 x2 x20) (fin:=sj x1 x2 x20) (step:=pW x1 x2 x20) (λe=>by (intro h;cases h)) (λs x h=>O5 d h) KK Kt r h
def Ms (p_r:aJ):Option (aA×aJ) :=
 (jd p_r).bind λ(x1:Int×aJ)=>(jd x1.2).bind λ(x2:Int×aJ)=>(yM 8 x2.2).bind λ(x3:Int×aJ)=>(Gm x1 x2 (x3.1,x3.2,[])).bind λ(x20:(aJ×List au))=>(yM 4 x20.1).bind λ(x21:Int×aJ)=>(Gn x1 x2 x20 (x21.1,x21.2,[])).bind λ(x35:(aJ×List ak))=>(uS (⟨x1.1,x2.1,x20.2,x35.2⟩:aA)).bind λ(Bo:Bool)=>cond (!Bo) ((qR 2 x35.1).bind λ(WW:aJ)=>some ((⟨x1.1,x2.1,x20.2,x35.2⟩:aA),WW)) (some ((⟨x1.1,x2.1,x20.2,x35.2⟩:aA),x35.1))
def Ew (p_r:aJ) (r:aA×aJ):AV×WH:=((.agg (bI r.1)),[(some (.cells (dS r.2) false false))])
theorem akm (d:Nat) {p_r:aJ} {r:aA×aJ} (h:Ms p_r=some r):Spec (aB aH (d+7)) 71 [(.ptr (some (0,0)))] [(some (.cells (dS p_r) false false))] (Ew p_r r).1 (Ew p_r r).2:=by
 unfold Ms at h
 exact aX nB ayG h (.z 2 [.undef,.undef,.slice none 2 0 0 true,.slice none 4 0 0 true] <| .bd λx1 q1=>Cl [] Fo [] (jk (d+3) q1) <| .bd λx2 q2=>Cl [] Fo [] (jk (d+3) q2) <| .z 10 [.agg [.undef,.undef,.slice none 2 0 0 true,.slice none 4 0 0 true]] <| .z 3 [.undef,.undef,.slice none 2 0 0 true,.slice none 4 0 0 true] <| .st none <| .bd λx3 q3=>Cl [] Fo [] (Ip (d+2) q3) <| .bd λx20 q20=>Lp [none,none,none,none] [Tw,Tw,Tw,Tw,Tw,Tw,Tw] [] (O4 (d+2) q20) <| .bd λx21 q21=>Cl [] Fo [] (Ip (d+2) q21) <| .bd λx35 q35=>Lp [none,none,none,none] [] [] (O6 (d+1) q35) <| .bd λBo q36=>Cb [.agg [.undef,.undef,.slice none 2 0 0 true,.slice none 4 0 0 true]] (Jf (d+0) q36) <| .br 61 (λ_=>.bd λWW q37=>Cl [] Fo [] (wS (d+5) q37) <| .st none <| Fn Fo [.agg [.undef,.undef,.slice none 2 0 0 true,.slice none 4 0 0 true]] none) λ_=>.st none <| Fn Fo [.agg [.undef,.undef,.slice none 2 0 0 true,.slice none 4 0 0 true]] none)
abbrev Uy (cu:aF) (s11:Int×Int×List (List UInt8)) (l:List aF):Fast×WH:=([(0,(.ptr (some (0,0)))),(5,(.int .i64 s11.1)),(7,(.ptr (some (1,0)))),(8,(vV l)),(9,(.int .i64 (l.length:Int))),(10,(.int .i64 s11.2.1))],[(some (.cells [(.acc 2 0 1 s11.2.2.length true)] false false)),(some (.cells (bX cu) false false)),(some (.cells (j_ s11.2.2) false true))])
def R8 (cu:aF) (s11:Int×Int×List (List UInt8)) (l:List aF):Bool→Ex×Fast×WH:=λe=>(.normal,[(0,(.ptr (some (0,0)))),(5,(.int .i64 s11.1)),(7,(.ptr (some (1,0)))),(8,(vV l)),(9,(.int .i64 (l.length:Int))),(10,(.int .i64 s11.2.1)),(23,(.bool e))],[(some (.cells [(.acc 2 0 1 s11.2.2.length true)] false false)),(some (.cells (bX cu) false false)),(some (.cells (j_ s11.2.2) false true))])
def Gp (cu:aF) (s11:Int×Int×List (List UInt8)) (l:List aF):Option (Bool) :=
 (zK cu).bind λ(qJ:Bool)=>cond qJ (some (decide ((s11.2.2.length:Int) < 60))) (some false)
theorem V3 (d:Nat) {cu:aF} {s11:Int×Int×List (List UInt8)} {l:List aF} {r:Bool} (h:Gp cu s11 l=some r):bJ (aU (aB aH (d+11)) KK 39 z_) 1 (Uy cu s11 l) (R8 cu s11 l r):=by
 unfold Gp at h
 exact bA nB CY h (.bd λqJ XA=>Cb [.agg [.undef,.undef,.undef,.undef,.undef,.undef,.undef,.undef,.undef,.undef,.undef,.undef,.undef,.undef,.undef,.undef,.undef,.slice none 1 0 0 true,.slice none 5 0 0 true,.undef,.undef,.slice none 2 0 0 true,.slice none 4 0 0 true]] (Ii (d+0) XA) <| .br 16 (λ_=>E1 [0,5,7,8,9,10,23] [none,none,none,none,none,none,none] [] [.undef,.undef,.undef,.slice none 23 0 0 true,.undef,.undef,.undef]) λ_=>E1 [0,5,7,8,9,10,23] [none,none,none,none,none,none,none] [] [.undef,.undef,.undef,.slice none 23 0 0 true,.undef,.undef,.undef])
def uj (l:List aF) (s11:Int×Int×List (List UInt8)):List AV×WH:=([(.ptr (some (0,0))),(.int .i64 s11.1),(vV l),(.int .i64 (l.length:Int)),(.int .i64 s11.2.1)],[(some (.cells [(.acc 1 0 1 s11.2.2.length true)] false false)),(some (.cells (j_ s11.2.2) false true))])
def zq (l:List aF):(Int×List (List UInt8))→Ex×Fast×WH:=λe=>((.exit 0),[(5,(.int .i64 e.1))],[(some (.cells [(.acc 1 0 1 e.2.length true)] false false)),(some (.cells (j_ e.2) false true))])
abbrev Uz (l:List aF):=dx [0,5,8,9,10] (uj l) (zq l)
def wT (l:List aF) (s11:Int×Int×List (List UInt8)):Option ((Int×Int×List (List UInt8))⊕((Int×List (List UInt8)))) :=
 cond (decide (s11.2.1 < (l.length:Int))) ((bO l s11.2.1).bind λ(cu:aF)=>(Gp cu s11 l).bind λ(lH:Bool)=>cond lH ((PO cu).bind λ(bR:List UInt8)=>gd (dh 24 (s11.2.2++[bR]).length) (some (.inl ((IntKind.i64.wrap (s11.1+1)),(IntKind.i64.wrap (s11.2.1+1)),(s11.2.2++[bR]))))) (some (.inl (s11.1,(IntKind.i64.wrap (s11.2.1+1)),s11.2.2)))) (some (.inr (s11.1,s11.2.2)))
def O7 (l:List aF) (s11:Int×Int×List (List UInt8)):Option ((Int×List (List UInt8))):=bT (wT l) KK s11
theorem V4 (d:Nat) {l:List aF} {s11:Int×Int×List (List UInt8)} {r:(Int×Int×List (List UInt8))⊕((Int×List (List UInt8)))} (h:wT l s11=some r):bJ (aU (aB aH (d+12)) KK 39 Zm) 1 (jg [0,5,8,9,10] (uj l s11)) (Uz l r):=by
 unfold wT at h
 exact bA nB acH h (.br 11 (λ_=>.bd λcu KZ=>Ix kC 12 KZ <| .z 7 [.undef,.undef,.undef,.undef,.undef,.undef,.undef,.undef,.undef,.undef,.undef,.undef,.undef,.undef,.undef,.undef,.undef,.slice none 1 0 0 true,.slice none 5 0 0 true,.undef,.undef,.slice none 2 0 0 true,.slice none 4 0 0 true] <| .st none <| .bd λlH LW=>Jn [0,5,7,8,9,10] [none,none,none,none,none,none] [] [.undef,.undef,.undef,.slice none 23 0 0 true,.undef,.undef] (V3 (d+1) LW) <| .br 23 (λ_=>.bd λbR KC=>Cl [] Fo [.agg [.undef,.undef,.undef,.undef,.undef,.undef,.undef,.undef,.undef,.undef,.undef,.undef,.undef,.undef,.undef,.undef,.undef,.slice none 1 0 0 true,.slice none 5 0 0 true,.undef,.undef,.slice none 2 0 0 true,.slice none 4 0 0 true]] (adf (d+0) KC) <| .gd λq16=>Ap MN 32 q16 <| .st none <| E1 [0,5,8,9,10] [none,none,none,none,none] [] [.undef,.undef,.slice none 23 0 0 true,.undef,.undef]) λ_=>E1 [0,5,8,9,10] [none,none,none,none,none] [] [.undef,.undef,.slice none 23 0 0 true,.undef,.undef]) λ_=>E0 [5])
theorem V5 (d:Nat) {l:List aF} {s11:Int×Int×List (List UInt8)} {r:(Int×List (List UInt8))} (h:O7 l s11=some r):bJ (eu (aU (aB aH (d+12)) KK 39 Zm) [0,5,8,9,10] KK) 1 (jg [0,5,8,9,10] (uj l s11)) (zq l r) :=
 bY (st:=uj l) (fin:=zq l) (step:=wT l) (λe=>by (intro h;cases h)) (λs x h=>V4 d h) KK s11 r h
def DC (l:List aF):Option (Int×List (List UInt8)) :=
 (O7 l (0,0,[])).bind λ(iU:(Int×List (List UInt8)))=>some (iU.1,iU.2)
def Mt (l:List aF) (r:Int×List (List UInt8)):AV×WH:=((.int .i64 r.1),[(some (.cells [(.acc 1 0 1 r.2.length true)] false false)),(some (.cells (j_ r.2) false true))])
theorem Q6 (d:Nat) {l:List aF} {r:Int×List (List UInt8)} (h:DC l=some r):Spec (aB aH (d+13)) 20 [(.ptr (some (0,0))),(vV l)] [(some (.cells [(.slice none 1 0 0 true)] false false))] (Mt l r).1 (Mt l r).2:=by
 unfold DC at h
 exact aX nB awF h (.bd λiU GH=>Lp [none,none,none,none,none] [Tw,Tw] [.undef,.undef,.slice none 23 0 0 true,.undef,.undef] (V5 (d+0) GH) <| Fn Fo [] none)
abbrev Ql (cu:aF) (s11:Int×Int×List (List UInt8)) (l:List aF):Fast×WH:=([(0,(.ptr (some (0,0)))),(5,(.int .i64 s11.1)),(7,(.ptr (some (2,0)))),(8,(vV l)),(9,(.int .i64 (l.length:Int))),(10,(.int .i64 s11.2.1))],[(some (.cells [(.acc 3 0 1 s11.2.2.length true)] false false)),none,(some (.cells (bX cu) false false)),(some (.cells (j_ s11.2.2) false true))])
def O8 (cu:aF) (s11:Int×Int×List (List UInt8)) (l:List aF):Bool→Ex×Fast×WH:=λe=>(.normal,[(0,(.ptr (some (0,0)))),(5,(.int .i64 s11.1)),(7,(.ptr (some (2,0)))),(8,(vV l)),(9,(.int .i64 (l.length:Int))),(10,(.int .i64 s11.2.1)),(23,(.bool e))],[(some (.cells [(.acc 3 0 1 s11.2.2.length true)] false false)),none,(some (.cells (bX cu) false false)),(some (.cells (j_ s11.2.2) false true))])
def wU (cu:aF) (s11:Int×Int×List (List UInt8)) (l:List aF):Option (Bool) :=
 (zK cu).bind λ(qJ:Bool)=>cond qJ (some (decide ((s11.2.2.length:Int) < 60))) (some false)
theorem R9 (d:Nat) {cu:aF} {s11:Int×Int×List (List UInt8)} {l:List aF} {r:Bool} (h:wU cu s11 l=some r):bJ (aU (aB aH (d+11)) KK 39 z_) 2 (Ql cu s11 l) (O8 cu s11 l r):=by
 unfold wU at h
 exact bA nB CY h (.bd λqJ XA=>Cb [.agg [.undef,.undef,.undef,.undef,.undef,.undef,.undef,.undef,.undef,.undef,.undef,.undef,.undef,.undef,.undef,.undef,.undef,.slice none 1 0 0 true,.slice none 5 0 0 true,.undef,.undef,.slice none 2 0 0 true,.slice none 4 0 0 true]] (Ii (d+0) XA) <| .br 16 (λ_=>E1 [0,5,7,8,9,10,23] [none,none,none,none,none,none,none] [] [.undef,.undef,.undef,.slice none 23 0 0 true,.undef,.undef,.undef]) λ_=>E1 [0,5,7,8,9,10,23] [none,none,none,none,none,none,none] [] [.undef,.undef,.undef,.slice none 23 0 0 true,.undef,.undef,.undef])
def qD (l:List aF) (s11:Int×Int×List (List UInt8)):List AV×WH:=([(.ptr (some (0,0))),(.int .i64 s11.1),(vV l),(.int .i64 (l.length:Int)),(.int .i64 s11.2.1)],[(some (.cells [(.acc 2 0 1 s11.2.2.length true)] false false)),none,(some (.cells (j_ s11.2.2) false true))])
def vw (l:List aF):(Int×List (List UInt8))→Ex×Fast×WH:=λe=>((.exit 0),[(5,(.int .i64 e.1))],[(some (.cells [(.acc 2 0 1 e.2.length true)] false false)),none,(some (.cells (j_ e.2) false true))])
abbrev Qm (l:List aF):=dx [0,5,8,9,10] (qD l) (vw l)
def kL (l:List aF) (s11:Int×Int×List (List UInt8)):Option ((Int×Int×List (List UInt8))⊕((Int×List (List UInt8)))) :=
 cond (decide (s11.2.1 < (l.length:Int))) ((bO l s11.2.1).bind λ(cu:aF)=>(wU cu s11 l).bind λ(lH:Bool)=>cond lH ((PO cu).bind λ(bR:List UInt8)=>gd (dh 24 (s11.2.2++[bR]).length) (some (.inl ((IntKind.i64.wrap (s11.1+1)),(IntKind.i64.wrap (s11.2.1+1)),(s11.2.2++[bR]))))) (some (.inl (s11.1,(IntKind.i64.wrap (s11.2.1+1)),s11.2.2)))) (some (.inr (s11.1,s11.2.2)))
def wV (l:List aF) (s11:Int×Int×List (List UInt8)):Option ((Int×List (List UInt8))):=bT (kL l) KK s11
theorem R_ (d:Nat) {l:List aF} {s11:Int×Int×List (List UInt8)} {r:(Int×Int×List (List UInt8))⊕((Int×List (List UInt8)))} (h:kL l s11=some r):bJ (aU (aB aH (d+12)) KK 39 Zm) 2 (jg [0,5,8,9,10] (qD l s11)) (Qm l r):=by
 unfold kL at h
 exact bA nB acH h (.br 11 (λ_=>.bd λcu KZ=>Ix kC 12 KZ <| .z 7 [.undef,.undef,.undef,.undef,.undef,.undef,.undef,.undef,.undef,.undef,.undef,.undef,.undef,.undef,.undef,.undef,.undef,.slice none 1 0 0 true,.slice none 5 0 0 true,.undef,.undef,.slice none 2 0 0 true,.slice none 4 0 0 true] <| .st none <| .bd λlH LW=>Jn [0,5,7,8,9,10] [none,none,none,none,none,none] [] [.undef,.undef,.undef,.slice none 23 0 0 true,.undef,.undef] (R9 (d+1) LW) <| .br 23 (λ_=>.bd λbR KC=>Cl [] Fo [.agg [.undef,.undef,.undef,.undef,.undef,.undef,.undef,.undef,.undef,.undef,.undef,.undef,.undef,.undef,.undef,.undef,.undef,.slice none 1 0 0 true,.slice none 5 0 0 true,.undef,.undef,.slice none 2 0 0 true,.slice none 4 0 0 true]] (adf (d+0) KC) <| .gd λq16=>Ap MN 32 q16 <| .st none <| E1 [0,5,8,9,10] [none,none,none,none,none] [] [.undef,.undef,.slice none 23 0 0 true,.undef,.undef]) λ_=>E1 [0,5,8,9,10] [none,none,none,none,none] [] [.undef,.undef,.slice none 23 0 0 true,.undef,.undef]) λ_=>E0 [5])
theorem Sc (d:Nat) {l:List aF} {s11:Int×Int×List (List UInt8)} {r:(Int×List (List UInt8))} (h:wV l s11=some r):bJ (eu (aU (aB aH (d+12)) KK 39 Zm) [0,5,8,9,10] KK) 2 (jg [0,5,8,9,10] (qD l s11)) (vw l r) :=
 bY (st:=qD l) (fin:=vw l) (step:=kL l) (λe=>by (intro h;cases h)) (λs x h=>R_ d h) KK s11 r h
def yx (l:List aF) (aM:List (List UInt8)):Option (Int×List (List UInt8)) :=
 (wV l (0,0,aM)).bind λ(iU:(Int×List (List UInt8)))=>some (iU.1,iU.2)
def Ir (l:List aF) (aM:List (List UInt8)) (r:Int×List (List UInt8)):AV×WH:=((.int .i64 r.1),[(some (.cells [(.acc 2 0 1 r.2.length true)] false false)),none,(some (.cells (j_ r.2) false true))])
theorem Yb (d:Nat) {l:List aF} {aM:List (List UInt8)} {r:Int×List (List UInt8)} (h:yx l aM=some r):Spec (aB aH (d+13)) 20 [(.ptr (some (0,0))),(vV l)] [(some (.cells [(.acc 1 0 1 aM.length true)] false false)),(some (.cells (j_ aM) false true))] (Ir l aM r).1 (Ir l aM r).2:=by
 unfold yx at h
 exact aX nB awF h (.bd λiU GH=>Lp [none,none,none,none,none] [Tw,Tw,Tw] [.undef,.undef,.slice none 23 0 0 true,.undef,.undef] (Sc (d+0) GH) <| Fn Fo [] none)
def vB (k:Int) (aM:List (List UInt8)):Option (Bool) :=
 cond (decide (k≥0)) (some (decide (k < (aM.length:Int)))) (some false)
def O9 (k:Int) (aM:List (List UInt8)) (r:Bool):AV×WH:=((.bool r),[(some (.cells [(.acc 1 0 1 aM.length true)] false false)),(some (.cells (j_ aM) false true))])
theorem ES (d:Nat) {k:Int} {aM:List (List UInt8)} {r:Bool} (h:vB k aM=some r):Spec (aB aH (d+1)) 72 [(.ptr (some (0,0))),(.int .i64 k)] [(some (.cells [(.acc 1 0 1 aM.length true)] false false)),(some (.cells (j_ aM) false true))] (O9 k aM r).1 (O9 k aM r).2:=by
 unfold vB at h
 exact aX nB ayH h (.br 7 (λ_=>Fn Fo [] none) λ_=>Fn Fo [] none)
abbrev Sd (k:Int) (aM:List (List UInt8)) (j:Int):Fast×WH:=([(0,(.ptr (some (0,0)))),(1,(.int .i64 k)),(2,(.int .i64 j))],[(some (.cells [(.acc 1 0 1 aM.length true)] false false)),(some (.cells (j_ aM) false true))])
def Qn (k:Int) (aM:List (List UInt8)) (j:Int):Unit⊕Unit→Ex×Fast×WH:=fun
 | .inl e=>(.ret,[(6,(.bool false))],[(some (.cells [(.acc 1 0 1 aM.length true)] false false)),(some (.cells (j_ aM) false true))])
 | .inr e=>(.normal,[(0,(.ptr (some (0,0)))),(1,(.int .i64 k)),(2,(.int .i64 j))],[(some (.cells [(.acc 1 0 1 aM.length true)] false false)),(some (.cells (j_ aM) false true))])
def yN (k:Int) (aM:List (List UInt8)) (j:Int):Option (Unit⊕Unit) :=
 (vB k aM).bind λ(x1:Bool)=>cond (!x1) (some (.inl ())) ((vB j aM).bind λ(x2:Bool)=>cond (!x2) (some (.inl ())) (some (.inr ())))
theorem Iu (d:Nat) {k:Int} {aM:List (List UInt8)} {j:Int} {r:Unit⊕Unit} (h:yN k aM j=some r):bJ (aU (aB aH (d+1)) KK 43 akg) 2 (Sd k aM j) (Qn k aM j r):=by
 unfold yN at h
 exact bA nB ain h (.bd λx1 q1=>Cl0 (ES (d+0) q1) <| .br 11 (λ_=>E0 [6]) λ_=>.bd λx2 q2=>Cl0 (ES (d+0) q2) <| .br 16 (λ_=>E0 [6]) λ_=>E0 [0,1,2])
def wW (k:Int) (j:Int) (aM:List (List UInt8)):Option (Bool×List (List UInt8)) :=
 (yN k aM j).bind λ(x3:Unit⊕Unit)=>cond (jI x3) (some (false,aM)) ((bO aM j).bind λ(x5:List UInt8)=>(bO aM k).bind λ(x6:List UInt8)=>(bO aM k).bind λ(x7:List UInt8)=>(bO (aM.set k.toNat x5) j).bind λ(x8:List UInt8)=>some (true,((aM.set k.toNat x5).set j.toNat x6)))
def ng (k:Int) (j:Int) (aM:List (List UInt8)) (r:Bool×List (List UInt8)):AV×WH:=((.bool r.1),[(some (.cells [(.acc 1 0 1 r.2.length true)] false false)),(some (.cells (j_ r.2) false true))])
theorem O_ (d:Nat) {k:Int} {j:Int} {aM:List (List UInt8)} {r:Bool×List (List UInt8)} (h:wW k j aM=some r):Spec (aB aH (d+2)) 21 [(.ptr (some (0,0))),(.int .i64 k),(.int .i64 j)] [(some (.cells [(.acc 1 0 1 aM.length true)] false false)),(some (.cells (j_ aM) false true))] (ng k j aM r).1 (ng k j aM r).2:=by
 unfold wW at h
 exact aX nB ax3 h (.sk <| .bd λx3 q3=>.ite (λhb4=>Jn [0,1,2] [none,none,none] [] [] (jA (il hb4) (Iu (d+0) q3)) <| Fn Fo [] none) λhb4=>Jn [0,1,2] [none,none,none] [] [] (jA (zy hb4) (Iu (d+0) q3)) <| .bd λx5 q5=>Ia MN 32 1 q5 <| Ld MN 33 false 1 0 q5 (oU x5) rfl <| .bd λx6 q6=>Ia MN 39 1 q6 <| Ld MN 40 false 1 0 q6 (oU x6) rfl <| .bd λx7 q7=>Ia MN 41 1 q7 <| .st (some (j_ (aM.set k.toNat x5))) <| .ob (DT (o:=0) MN q7 rfl:U2 (j_ aM) (0+k.toNat * 1) [(oU x5)]=some (j_ (aM.set k.toNat x5))) <| .bd λx8 q8=>.v 42 (.ptr (some (1,0+j.toNat * 1))) <| .ob (by (try rw [show AV.list 1 aM.length (j_ (aM.set k.toNat x5)) false=afM (aM.set k.toNat x5) from by simp only [afM,List.length_set]]);rw [show (aM.length:Nat)=(aM.set k.toNat x5).length from by simp only [List.length_set,List.length_append,List.length_replicate]];exact Yx MN q8:wP (.j6 1 (.c (.acc 1 0 1 aM.length true)) (.c (.int .i64 j)))=some (.ptr (some (1,0+j.toNat * 1)))) <| .st (some (j_ ((aM.set k.toNat x5).set j.toNat x6))) <| .ob (by (try rw [show AV.list 1 aM.length (j_ (aM.set k.toNat x5)) false=afM (aM.set k.toNat x5) from by simp only [afM,List.length_set]]);exact DT (o:=0) MN q8 rfl:U2 (j_ (aM.set k.toNat x5)) (0+j.toNat * 1) [(oU x6)]=some (j_ ((aM.set k.toNat x5).set j.toNat x6))) <| .xP (.fin (some false) [] none) _ (λr=>@Eq AV (.bool true) (ng k j aM r).1∧@Eq WH [(some (.cells [(.acc 1 0 1 aM.length true)] false false)),(some (.cells (j_ ((aM.set k.toNat x5).set j.toNat x6)) false true))] (ng k j aM r).2) (by show _∧_;(try rw [show AV.list 1 aM.length (j_ (aM.set k.toNat x5)) false=afM (aM.set k.toNat x5) from by simp only [afM,List.length_set]]);(try rw [show AV.list 1 aM.length (j_ ((aM.set k.toNat x5).set j.toNat x6)) false=afM ((aM.set k.toNat x5).set j.toNat x6) from by simp only [afM,List.length_set]]);refine ⟨?_, ?_⟩<;>first | rfl | (simp only [ng,List.length_set,List.length_append,List.length_replicate,List.length_cons,List.length_nil,List.length_take,List.length_drop,Nat.add_zero,Nat.zero_add];done) | simp [ng]))
def wX (k:Int) (aM:List (List UInt8)):Option (aF×Bool×List (List UInt8)) :=
 (vB k aM).bind λ(x1:Bool)=>cond (!x1) (some ((⟨0,0,0,0,0,0,0,0,false,(⟨0,0,(⟨0,([]:List UInt8),([]:List UInt8),([]:List UInt8)⟩:bD)⟩:bn),(⟨0,([]:List UInt8)⟩:aD),[],[],(⟨0,0,[],[]⟩:aA)⟩:aF),false,aM)) ((bO aM k).bind λ(x2:List UInt8)=>(Gh x2).bind λ(x3:aF×Int)=>gd (akY k (IntKind.i64.wrap (k+1)) aM.length) (some (x3.1,true,(GD aM k (IntKind.i64.wrap (k+1))))))
def Ku (k:Int) (aM:List (List UInt8)) (r:aF×Bool×List (List UInt8)):AV×WH:=((.tuple [(.agg (bX r.1)),(.bool r.2.1)]),[(some (.cells [(.acc 2 0 1 r.2.2.length true)] false false)),none,(some (.cells (j_ r.2.2) false true))])
theorem Pb (d:Nat) {k:Int} {aM:List (List UInt8)} {r:aF×Bool×List (List UInt8)} (h:wX k aM=some r):Spec (aB aH (d+14)) 22 [(.ptr (some (0,0))),(.int .i64 k)] [(some (.cells [(.acc 1 0 1 aM.length true)] false false)),(some (.cells (j_ aM) false true))] (Ku k aM r).1 (Ku k aM r).2:=by
 unfold wX at h
 exact aX (Hz _) ax4 h (.z 4 [.undef,.undef,.undef,.undef,.undef,.undef,.undef,.undef,.undef,.undef,.undef,.undef,.undef,.undef,.undef,.undef,.undef,.slice none 1 0 0 true,.slice none 5 0 0 true,.undef,.undef,.slice none 2 0 0 true,.slice none 4 0 0 true] <| .bd λx1 q1=>Cl0 (ES (d+12) q1) <| .br 11 (λ_=>.z 12 [.agg [.undef,.undef,.undef,.undef,.undef,.undef,.undef,.undef,.undef,.undef,.undef,.undef,.undef,.undef,.undef,.undef,.undef,.slice none 1 0 0 true,.slice none 5 0 0 true,.undef,.undef,.slice none 2 0 0 true,.slice none 4 0 0 true]] <| .st none <| Fn Fo [.tuple [.agg [.undef,.undef,.undef,.undef,.undef,.undef,.undef,.undef,.undef,.undef,.undef,.undef,.undef,.undef,.undef,.undef,.undef,.slice none 1 0 0 true,.slice none 5 0 0 true,.undef,.undef,.slice none 2 0 0 true,.slice none 4 0 0 true],.undef]] Tw) λ_=>.bd λx2 q2=>Ia MN 19 1 q2 <| Ld MN 20 false 1 0 q2 (oU x2) rfl <| .bd λx3 q3=>Cl [] Fo [] (aat (d+0) q3) <| .z 6 [.undef,.undef,.undef,.undef,.undef,.undef,.undef,.undef,.undef,.undef,.undef,.undef,.undef,.undef,.undef,.undef,.undef,.slice none 1 0 0 true,.slice none 5 0 0 true,.undef,.undef,.slice none 2 0 0 true,.slice none 4 0 0 true] <| .st none <| .gd λq4=>.ob (ah1 q4:(0≤k∧k < (IntKind.i64.wrap (k+1))∧(IntKind.i64.wrap (k+1))≤((aM.length:Nat):Int))) <| .ap 32 (GD aM k (IntKind.i64.wrap (k+1))).length (j_ (GD aM k (IntKind.i64.wrap (k+1)))) <| .ob (ane (l:=aM) q4:aM.length - ((IntKind.i64.wrap (k+1)).toNat - k.toNat)=(GD aM k (IntKind.i64.wrap (k+1))).length) <| .ob (aj6 MN:(j_ aM).take (k.toNat * 1)++(j_ aM).drop ((IntKind.i64.wrap (k+1)).toNat * 1)=j_ (GD aM k (IntKind.i64.wrap (k+1)))) <| .st none <| .st none <| Fn Fo [.tuple [.agg [.undef,.undef,.undef,.undef,.undef,.undef,.undef,.undef,.undef,.undef,.undef,.undef,.undef,.undef,.undef,.undef,.undef,.slice none 1 0 0 true,.slice none 5 0 0 true,.undef,.undef,.slice none 2 0 0 true,.slice none 4 0 0 true],.undef]] Tw)
def Iw (aM:List (List UInt8)):Option (Int) :=
 some (aM.length:Int)
def Mv (aM:List (List UInt8)) (r:Int):AV×WH:=((.int .i64 r),[(some (.cells [(.acc 1 0 1 aM.length true)] false false)),(some (.cells (j_ aM) false true))])
theorem Q7 (d:Nat) {aM:List (List UInt8)} {r:Int} (h:Iw aM=some r):Spec (aB aH (d+1)) 24 [(.ptr (some (0,0)))] [(some (.cells [(.acc 1 0 1 aM.length true)] false false)),(some (.cells (j_ aM) false true))] (Mv aM r).1 (Mv aM r).2:=by
 unfold Iw at h
 exact aX nB ax6 h (Fn Fo [] none)
def su :Option (Bool) :=
 (DC ([(⟨1,0,1,0,0,0,0,0,false,(⟨0,0,(⟨0,([]:List UInt8),([]:List UInt8),([]:List UInt8)⟩:bD)⟩:bn),(⟨0,([]:List UInt8)⟩:aD),[],[],(⟨0,0,[],[]⟩:aA)⟩:aF),(⟨2,0,0,0,0,0,0,0,false,(⟨0,0,(⟨0,([]:List UInt8),([]:List UInt8),([]:List UInt8)⟩:bD)⟩:bn),(⟨0,([]:List UInt8)⟩:aD),[],[],(⟨0,0,[],[]⟩:aA)⟩:aF)])).bind λ(x1:Int×List (List UInt8))=>(wX 0 x1.2).bind λ(x2:aF×Bool×List (List UInt8))=>cond (x1.1==2) (cond x2.2.1 (cond (x2.1.To==1) ((Iw x2.2.2).bind λ(x3:Int)=>some (x3==1)) (some false)) (some false)) (some false)
def Bf (r:Bool):AV×WH:=((.bool r),[])
theorem Pf (d:Nat)  {r:Bool} (h:su=some r):Spec (aB aH (d+15)) 23 [] [] (Bf r).1 (Bf r).2:=by
 unfold su at h
 exact aX nB ax5 h (.st none <| .z 6 [.agg [.undef,.undef,.undef,.undef,.undef,.undef,.undef,.undef,.undef,.undef,.undef,.undef,.undef,.undef,.undef,.undef,.undef,.slice none 1 0 0 true,.slice none 5 0 0 true,.undef,.undef,.slice none 2 0 0 true,.slice none 4 0 0 true]] <| .z 7 [.agg [.undef,.undef,.undef,.undef,.undef,.undef,.undef,.undef,.undef,.undef,.undef,.undef,.undef,.undef,.undef,.undef,.undef,.slice none 1 0 0 true,.slice none 5 0 0 true,.undef,.undef,.slice none 2 0 0 true,.slice none 4 0 0 true]] <| .bd λx1 q1=>Cl [] none [.undef,.slice none 23 0 0 true] (Q6 (d+1) q1) <| .bd λx2 q2=>Cl0 (Pb (d+0) q2) <| .z 3 [.undef,.undef,.undef,.undef,.undef,.undef,.undef,.undef,.undef,.undef,.undef,.undef,.undef,.undef,.undef,.undef,.undef,.slice none 1 0 0 true,.slice none 5 0 0 true,.undef,.undef,.slice none 2 0 0 true,.slice none 4 0 0 true] <| .st none <| .br 16 (λ_=>.br 19 (λ_=>.br 24 (λ_=>.bd λx3 q3=>Cl0 (Q7 (d+13) q3) <| Fn Fo [] none) λ_=>Fn Fo [] none) λ_=>Fn Fo [] none) λ_=>Fn Fo [] none)
abbrev ET (s13:Int×List aF) (l:List bf) (a:Int) (aY:Int):Fast×WH:=([(0,(CW l)),(1,(.int .i64 a)),(2,(.int .i64 aY)),(7,(.ptr (some (0,0)))),(8,(.acc 1 0 23 s13.2.length true)),(9,(.int .i64 s13.1))],[(some (.cells [(.slice none 1 0 0 true)] false false)),(some (.cells (jS s13.2) false true))])
def Ee (s13:Int×List aF) (l:List bf) (a:Int) (aY:Int):Unit⊕Unit→Ex×Fast×WH:=fun
 | .inl e=>(.normal,[(0,(CW l)),(1,(.int .i64 a)),(2,(.int .i64 aY)),(7,(.ptr (some (0,0)))),(8,(.acc 1 0 23 s13.2.length true)),(9,(.int .i64 s13.1))],[(some (.cells [(.slice none 1 0 0 true)] false false)),(some (.cells (jS s13.2) false true))])
 | .inr e=>((.exit 0),[(1,(.int .i64 a)),(2,(.int .i64 aY)),(7,(.ptr (some (0,0)))),(8,(.acc 1 0 23 s13.2.length true))],[(some (.cells [(.slice none 1 0 0 true)] false false)),(some (.cells (jS s13.2) false true))])
def kZ (s13:Int×List aF) (l:List bf) (a:Int) (aY:Int):Option (Unit⊕Unit) :=
 cond (decide (s13.1 < (l.length:Int))) (cond (decide (s13.1 < 20)) (some (.inl ())) (some (.inr ()))) (some (.inr ()))
theorem vC (d:Nat) {s13:Int×List aF} {l:List bf} {a:Int} {aY:Int} {r:Unit⊕Unit} (h:kZ s13 l a aY=some r):bJ (aU (aB aH (d+0)) KK 107 Tk) 0 (ET s13 l a aY) (Ee s13 l a aY r):=by
 unfold kZ at h
 exact bA nB Xv h (.br 23 (λ_=>.br 26 (λ_=>E1 [0,1,2,7,8,9] [none,none,none,none,none,none] [] [.slice none 22 0 0 true,.undef,.undef,.undef,.slice none 23 0 0 true,.undef]) λ_=>E1 [1,2,7,8] [none,none,none,none] [] [.undef,.undef,.undef,.slice none 23 0 0 true]) λ_=>E1 [1,2,7,8] [none,none,none,none] [] [.undef,.undef,.undef,.slice none 23 0 0 true])
def jB (l:List bf) (a:Int) (aY:Int) (s13:Int×List aF):List AV×WH:=([(CW l),(.int .i64 a),(.int .i64 aY),(.ptr (some (0,0))),(.acc 1 0 23 s13.2.length true),(.int .i64 s13.1)],[(some (.cells [(.slice none 1 0 0 true)] false false)),(some (.cells (jS s13.2) false true))])
def lW (l:List bf) (a:Int) (aY:Int):(List aF)→Ex×Fast×WH:=λe=>((.exit 0),[(1,(.int .i64 a)),(2,(.int .i64 aY)),(7,(.ptr (some (0,0)))),(8,(.acc 1 0 23 e.length true))],[(some (.cells [(.slice none 1 0 0 true)] false false)),(some (.cells (jS e) false true))])
abbrev EU (l:List bf) (a:Int) (aY:Int):=dx [0,1,2,7,8,9] (jB l a aY) (lW l a aY)
def iF (l:List bf) (a:Int) (aY:Int) (s13:Int×List aF):Option ((Int×List aF)⊕((List aF))) :=
 (kZ s13 l a aY).bind λ(lH:Unit⊕Unit)=>cond (jI lH) ((bO l s13.1).bind λ(yY:bf)=>(ZT yY 5).bind λ(iU:aF)=>(Dh iU).bind λ(x18:Bool)=>cond x18 (gd (dh 280 (s13.2++[iU]).length) (some (.inl ((IntKind.i64.wrap (s13.1+1)),(s13.2++[iU]))))) (some (.inl ((IntKind.i64.wrap (s13.1+1)),s13.2)))) (some (.inr s13.2))
def qj (l:List bf) (a:Int) (aY:Int) (s13:Int×List aF):Option ((List aF)):=bT (iF l a aY) KK s13
theorem Gq (d:Nat) {l:List bf} {a:Int} {aY:Int} {s13:Int×List aF} {r:(Int×List aF)⊕((List aF))} (h:iF l a aY s13=some r):bJ (aU (aB aH (d+7)) KK 107 ant) 0 (jg [0,1,2,7,8,9] (jB l a aY s13)) (EU l a aY r):=by
 unfold iF at h
 exact bA nB anu h (.bd λlH LW=>.ite (λavV=>Jn [0,1,2,7,8,9] [none,none,none,none,none,none] [] [.slice none 22 0 0 true,.undef,.undef,.undef,.slice none 23 0 0 true,.undef] (jA (il avV) (vC (d+7) LW)) <| .bd λyY q16=>Ix WE 31 q16 <| .bd λiU GH=>Cl [] Fo [.agg [.undef,.undef,.undef,.undef,.undef,.undef,.undef,.undef,.undef,.undef,.undef,.undef,.undef,.undef,.undef,.undef,.undef,.undef,.undef,.slice none 1 0 0 true,.slice none 5 0 0 true,.slice none 8 0 0 true]] (aqf (d+1) GH) <| .z 10 [.undef,.undef,.undef,.undef,.undef,.undef,.undef,.undef,.undef,.undef,.undef,.undef,.undef,.undef,.undef,.undef,.undef,.slice none 1 0 0 true,.slice none 5 0 0 true,.undef,.undef,.slice none 2 0 0 true,.slice none 4 0 0 true] <| .st none <| .bd λx18 Vk=>Cb [.agg [.undef,.undef,.undef,.undef,.undef,.undef,.undef,.undef,.undef,.undef,.undef,.undef,.undef,.undef,.undef,.undef,.undef,.slice none 1 0 0 true,.slice none 5 0 0 true,.undef,.undef,.slice none 2 0 0 true,.slice none 4 0 0 true]] (abA (d+0) Vk) <| .br 35 (λ_=>.gd λQG=>Ap kC 39 QG <| E1 [0,1,2,7,8,9] [none,none,none,none,none,none] [] [.slice none 22 0 0 true,.undef,.undef,.undef,.slice none 23 0 0 true,.undef]) λ_=>E1 [0,1,2,7,8,9] [none,none,none,none,none,none] [] [.slice none 22 0 0 true,.undef,.undef,.undef,.slice none 23 0 0 true,.undef]) λavV=>Jn [0,1,2,7,8,9] [none,none,none,none,none,none] [] [.slice none 22 0 0 true,.undef,.undef,.undef,.slice none 23 0 0 true,.undef] (jA (zy avV) (vC (d+7) LW)) <| E1 [1,2,7,8] [none,none,none,none] [] [.undef,.undef,.undef,.slice none 23 0 0 true])
theorem Gs (d:Nat) {l:List bf} {a:Int} {aY:Int} {s13:Int×List aF} {r:(List aF)} (h:qj l a aY s13=some r):bJ (eu (aU (aB aH (d+7)) KK 107 ant) [0,1,2,7,8,9] KK) 0 (jg [0,1,2,7,8,9] (jB l a aY s13)) (lW l a aY r) :=
 bY (st:=jB l a aY) (fin:=lW l a aY) (step:=iF l a aY) (λe=>by (intro h;cases h)) (λs x h=>Gq d h) KK s13 r h
abbrev EW (x20:(List aF)) (x21:Int) (a:Int) (aY:Int):Fast×WH:=([(1,(.int .i64 a)),(2,(.int .i64 aY)),(7,(.ptr (some (0,0)))),(8,(.acc 1 0 23 x20.length true)),(11,(.int .i64 x21))],[(some (.cells [(.slice none 1 0 0 true)] false false)),(some (.cells (jS x20) false true))])
def Ef (x20:(List aF)) (x21:Int) (a:Int) (aY:Int):Unit⊕(List (List UInt8))→Ex×Fast×WH:=fun
 | .inl e=>(.ret,[(6,(.bool false))],[])
 | .inr e=>(.normal,[(1,(.int .i64 a)),(2,(.int .i64 aY)),(7,(.ptr (some (0,0)))),(8,(.acc 1 0 23 x20.length true))],[(some (.cells [(.acc 2 0 1 e.length true)] false false)),(some (.cells (jS x20) true true)),(some (.cells (j_ e) false true))])
def je (x20:(List aF)) (x21:Int) (a:Int) (aY:Int):Option (Unit⊕(List (List UInt8))) :=
 (LQ x20 0 x21).bind λ(Fa:List aF)=>(DC Fa).bind λ(x23:Int×List (List UInt8))=>cond (x23.1 != x21) (some (.inl ())) ((LQ x20 x21 x20.length).bind λ(x24:List aF)=>(yx x24 x23.2).bind λ(x25:Int×List (List UInt8))=>cond (x25.1 != (IntKind.i64.wrap ((x20.length:Int) - x21))) (some (.inl ())) (some (.inr x25.2)))
theorem vD (d:Nat) {x20:(List aF)} {x21:Int} {a:Int} {aY:Int} {r:Unit⊕(List (List UInt8))} (h:je x20 x21 a aY=some r):bJ (aU (aB aH (d+13)) KK 107 Zg) 0 (EW x20 x21 a aY) (Ef x20 x21 a aY r):=by
 unfold je at h
 exact bA nB abd h (.bd λFa q22=>.v 47 (.acc 1 0 23 Fa.length false) <| .ob (Y7 kC q22:wP (.slice 23 (.c (.acc 1 0 23 x20.length true)) none (some (.c (.int .i64 x21))) none)=some (.acc 1 0 23 Fa.length false)) <| .bd λx23 q23=>Cl [] none [.undef,.slice none 23 0 0 true] (by (try rw [ny kC q22]);(try rw [jR kC q22]);exact Q6 (d+0) q23:Spec (aB aH (d+13)) 20 [(.ptr (some (0,0))),(.list 23 Fa.length (((jS x20).drop (0)).take (Fa.length * 23)) false)] [(some (.cells [(.slice none 1 0 0 true)] false false))] (.int .i64 x23.1) [(some (.cells [(.acc 1 0 1 x23.2.length true)] false false)),(some (.cells (j_ x23.2) false true))]) <| .br 51 (λ_=>E0 [6]) λ_=>.bd λx24 q24=>.v 54 (.acc 1 (0+x21.toNat * 23) 23 x24.length false) <| .ob (by (try rw [ny kC q22]);(try rw [jR kC q22]);exact Y6 kC q24:wP (.slice 23 (.c (.acc 1 0 23 x20.length true)) (some (.c (.int .i64 x21))) none none)=some (.acc 1 (0+x21.toNat * 23) 23 x24.length false)) <| .bd λx25 q25=>Cl [] none [.undef,.slice none 23 0 0 true] (by (try rw [ny kC q22]);(try rw [jR kC q22]);(try rw [Nt kC q24]);exact Yb (d+0) q25:Spec (aB aH (d+13)) 20 [(.ptr (some (0,0))),(.list 23 x24.length (((jS x20).drop (0+x21.toNat * 23)).take (x24.length * 23)) false)] [(some (.cells [(.acc 1 0 1 x23.2.length true)] false false)),(some (.cells (j_ x23.2) false true))] (.int .i64 x25.1) [(some (.cells [(.acc 2 0 1 x25.2.length true)] false false)),none,(some (.cells (j_ x25.2) false true))]) <| .br 61 (λ_=>E0 [6]) λ_=>E1 [1,2,7,8] [none,none,none,none] [] [.undef,.undef,.undef,.slice none 23 0 0 true])
abbrev EX (x20:(List aF)) (a:Int) (aY:Int) (qo:Unit⊕(List (List UInt8))):Fast×WH:=([(1,(.int .i64 a)),(2,(.int .i64 aY)),(7,(.ptr (some (0,0)))),(8,(.acc 1 0 23 x20.length true))],[(some (.cells [(.acc 2 0 1 (JE qo).length true)] false false)),(some (.cells (jS x20) true true)),(some (.cells (j_ (JE qo)) false true))])
def Eh (x20:(List aF)) (a:Int) (aY:Int) (qo:Unit⊕(List (List UInt8))):Unit⊕(List (List UInt8))→Ex×Fast×WH:=fun
 | .inl e=>(.ret,[(6,(.bool false))],[])
 | .inr e=>(.normal,[(7,(.ptr (some (0,0)))),(8,(.acc 1 0 23 x20.length true))],[(some (.cells [(.acc 2 0 1 e.length true)] false false)),(some (.cells (jS x20) true true)),(some (.cells (j_ e) false true))])
def jf (x20:(List aF)) (a:Int) (aY:Int) (qo:Unit⊕(List (List UInt8))):Option (Unit⊕(List (List UInt8))) :=
 cond (decide ((x20.length:Int) > 0)) ((bE a (x20.length:Int)).bind λ(x28:Int)=>(bE aY (x20.length:Int)).bind λ(x29:Int)=>(wW x28 x29 (JE qo)).bind λ(x30:Bool×List (List UInt8))=>cond (!x30.1) (some (.inl ())) ((wW x29 x28 x30.2).bind λ(x31:Bool×List (List UInt8))=>cond (!x31.1) (some (.inl ())) (some (.inr x31.2)))) (some (.inr (JE qo)))
theorem vE (d:Nat) {x20:(List aF)} {a:Int} {aY:Int} {qo:Unit⊕(List (List UInt8))} {r:Unit⊕(List (List UInt8))} (h:jf x20 a aY qo=some r):bJ (aU (aB aH (d+2)) KK 107 WK) 0 (EX x20 a aY qo) (Eh x20 a aY qo r):=by
 unfold jf at h
 exact bA nB Zh h (.br 64 (λ_=>.bd λx28 q28=>iA (bF (d+1) q28) <| .bd λx29 q29=>iA (bF (d+1) q29) <| .bd λx30 q30=>Cl0 (O_ (d+0) q30) <| .br 77 (λ_=>E0 [6]) λ_=>.bd λx31 q31=>Cl0 (O_ (d+0) q31) <| .br 82 (λ_=>E0 [6]) λ_=>E1 [7,8] [none,none] [] [.undef,.slice none 23 0 0 true]) λ_=>E1 [7,8] [none,none] [] [.undef,.slice none 23 0 0 true])
def jC (x20:(List aF)) (s37:Int×List (List UInt8)):List AV×WH:=([(.ptr (some (0,0))),(.acc 1 0 23 x20.length true),(.int .i64 (x20.length:Int)),(.int .i64 s37.1)],[(some (.cells [(.acc 2 0 1 s37.2.length true)] false false)),(some (.cells (jS x20) true true)),(some (.cells (j_ s37.2) false true))])
def lX (x20:(List aF)):Unit⊕(List (List UInt8))→Ex×Fast×WH:=fun
 | .inl e=>(.ret,[(6,(.bool false))],[])
 | .inr e=>((.exit 2),[(7,(.ptr (some (0,0))))],[(some (.cells [(.acc 1 0 1 e.length true)] false false)),(some (.cells (j_ e) false true))])
abbrev EY (x20:(List aF)):=dx [7,83,84,85] (jC x20) (lX x20)
def gJ (x20:(List aF)) (s37:Int×List (List UInt8)):Option ((Int×List (List UInt8))⊕(Unit⊕(List (List UInt8)))) :=
 cond (decide (s37.1 < (x20.length:Int))) ((bO x20 s37.1).bind λ(x38:aF)=>(wX 0 s37.2).bind λ(x39:aF×Bool×List (List UInt8))=>cond (!x39.2.1) (some (.inr (.inl ()))) ((Gd x39.1 x38).bind λ(x40:Bool)=>cond (!x40) (some (.inr (.inl ()))) (some (.inl ((IntKind.i64.wrap (s37.1+1)),x39.2.2))))) (some (.inr (.inr s37.2)))
def lg (x20:(List aF)) (s37:Int×List (List UInt8)):Option (Unit⊕(List (List UInt8))):=bT (gJ x20) KK s37
theorem Gt (d:Nat) {x20:(List aF)} {s37:Int×List (List UInt8)} {r:(Int×List (List UInt8))⊕(Unit⊕(List (List UInt8)))} (h:gJ x20 s37=some r):bJ (aU (aB aH (d+14)) KK 107 anv) 0 (jg [7,83,84,85] (jC x20 s37)) (EY x20 r):=by
 unfold gJ at h
 exact bA nB anw h (.br 86 (λ_=>.bd λx38 q38=>Ia kC 87 1 q38 <| Ld kC 88 true 23 0 q38 (.agg (bX x38)) rfl <| .z 15 [.undef,.undef,.undef,.undef,.undef,.undef,.undef,.undef,.undef,.undef,.undef,.undef,.undef,.undef,.undef,.undef,.undef,.slice none 1 0 0 true,.slice none 5 0 0 true,.undef,.undef,.slice none 2 0 0 true,.slice none 4 0 0 true] <| .st none <| .bd λx39 q39=>Cl0 (Pb (d+0) q39) <| .z 16 [.undef,.undef,.undef,.undef,.undef,.undef,.undef,.undef,.undef,.undef,.undef,.undef,.undef,.undef,.undef,.undef,.undef,.slice none 1 0 0 true,.slice none 5 0 0 true,.undef,.undef,.slice none 2 0 0 true,.slice none 4 0 0 true] <| .st none <| .br 95 (λ_=>E0 [6]) λ_=>.bd λx40 q40=>Cb [.agg [.undef,.undef,.undef,.undef,.undef,.undef,.undef,.undef,.undef,.undef,.undef,.undef,.undef,.undef,.undef,.undef,.undef,.slice none 1 0 0 true,.slice none 5 0 0 true,.undef,.undef,.slice none 2 0 0 true,.slice none 4 0 0 true],.agg [.undef,.undef,.undef,.undef,.undef,.undef,.undef,.undef,.undef,.undef,.undef,.undef,.undef,.undef,.undef,.undef,.undef,.slice none 1 0 0 true,.slice none 5 0 0 true,.undef,.undef,.slice none 2 0 0 true,.slice none 4 0 0 true]] (aeI (d+12) q40) <| .br 100 (λ_=>E0 [6]) λ_=>E1 [7,83,84,85] [none,none,none,none] [] [.undef,.slice none 23 0 0 true,.undef,.undef]) λ_=>E0 [7])
theorem vF (d:Nat) {x20:(List aF)} {s37:Int×List (List UInt8)} {r:Unit⊕(List (List UInt8))} (h:lg x20 s37=some r):bJ (eu (aU (aB aH (d+14)) KK 107 anv) [7,83,84,85] KK) 0 (jg [7,83,84,85] (jC x20 s37)) (lX x20 r) :=
 bY (st:=jC x20) (fin:=lX x20) (step:=gJ x20) (λe=>by rcases e with e | e<;>(intro h;cases h)) (λs x h=>Gt d h) KK s37 r h
def og (l:List bf) (a:Int) (aY:Int):Option (Bool) :=
 (qj l a aY (0,[])).bind λ(x20:(List aF))=>(bE a (IntKind.i64.wrap ((x20.length:Int)+1))).bind λ(x21:Int)=>(je x20 x21 a aY).bind λ(qo:Unit⊕(List (List UInt8)))=>cond (jI qo) (some false) ((jf x20 a aY qo).bind λ(x32:Unit⊕(List (List UInt8)))=>cond (jI x32) (some false) ((lg x20 (0,(JE x32))).bind λ(x41:Unit⊕(List (List UInt8)))=>cond (jI x41) (some false) ((su).bind λ(x43:Bool)=>cond x43 ((Iw (JE x41)).bind λ(x44:Int)=>some (x44==0)) (some false))))
def xu (l:List bf) (a:Int) (aY:Int) (r:Bool):AV×WH:=((.bool r),[])
theorem Kv (d:Nat) {l:List bf} {a:Int} {aY:Int} {r:Bool} (h:og l a aY=some r):Spec (aB aH (d+16)) 5 [(CW l),(.int .i64 a),(.int .i64 aY)] [] (xu l a aY r).1 (xu l a aY r).2:=by
 unfold og at h
 exact aX nB AF5 h (.st none <| .z 8 [.slice none 23 0 0 true] <| .bd λx20 q20=>Lp [none,none,none,none,Tw,none] [] [.slice none 22 0 0 true,.undef,.undef,.undef,.slice none 23 0 0 true,.undef] (Gs (d+8) q20) <| .bd λx21 q21=>iA (bF (d+14) q21) <| .bd λqo q26=>.ite (λavW=>Jn [1,2,7,8,11] [none,none,none,none,none] [] [.undef,.undef,.undef,.slice none 23 0 0 true,.undef] (jA (il avW) (vD (d+2) q26)) <| Fn Fo [] none) λavW=>Jn [1,2,7,8,11] [none,none,none,none,none] [] [.undef,.undef,.undef,.slice none 23 0 0 true,.undef] (jA (zy avW) (vD (d+2) q26)) <| .bd λx32 q32=>.ite (λavX=>Jn [1,2,7,8] [none,none,none,none] [] [.undef,.undef,.undef,.slice none 23 0 0 true] (jA (il avX) (vE (d+13) q32)) <| Fn Fo [] none) λavX=>Jn [1,2,7,8] [none,none,none,none] [] [.undef,.undef,.undef,.slice none 23 0 0 true] (jA (zy avX) (vE (d+13) q32)) <| .bd λx41 q41=>.ite (λavY=>Lp [none,none,none,none] [] [.undef,.slice none 23 0 0 true,.undef,.undef] (jA (il avY) (vF (d+1) q41)) <| Fn Fo [] none) λavY=>Lp [none,none,none,none] [] [.undef,.slice none 23 0 0 true,.undef,.undef] (jA (zy avY) (vF (d+1) q41)) <| .bd λx43 q43=>iA (Pf (d+0) q43) <| .br 103 (λ_=>.bd λx44 q44=>Cl0 (Q7 (d+14) q44) <| Fn Fo [] none) λ_=>Fn Fo [] none)
def um (aM:List (List UInt8)) (s7:Int×List aF):List AV×WH:=([(.acc 2 0 23 s7.2.length true),(.acc 1 0 1 aM.length true),(.int .i64 (aM.length:Int)),(.int .i64 s7.1)],[(some (.cells [(.acc 1 0 1 aM.length true)] false false)),(some (.cells (j_ aM) false true)),(some (.cells (jS s7.2) false true))])
def zu (aM:List (List UInt8)):(List aF)→Ex×Fast×WH:=λe=>((.exit 0),[(3,(.acc 2 0 23 e.length true))],[(some (.cells [(.acc 1 0 1 aM.length true)] false false)),(some (.cells (j_ aM) false true)),(some (.cells (jS e) false true))])
abbrev UA (aM:List (List UInt8)):=dx [3,11,12,13] (um aM) (zu aM)
def wY (aM:List (List UInt8)) (s7:Int×List aF):Option ((Int×List aF)⊕((List aF))) :=
 cond (decide (s7.1 < (aM.length:Int))) ((bO aM s7.1).bind λ(x8:List UInt8)=>(Gh x8).bind λ(x9:aF×Int)=>gd (dh 280 (s7.2++[x9.1]).length) (some (.inl ((IntKind.i64.wrap (s7.1+1)),(s7.2++[x9.1]))))) (some (.inr s7.2))
def Pg (aM:List (List UInt8)) (s7:Int×List aF):Option ((List aF)):=bT (wY aM) KK s7
theorem V6 (d:Nat) {aM:List (List UInt8)} {s7:Int×List aF} {r:(Int×List aF)⊕((List aF))} (h:wY aM s7=some r):bJ (aU (aB aH (d+13)) KK 29 aio) 2 (jg [3,11,12,13] (um aM s7)) (UA aM r):=by
 unfold wY at h
 exact bA nB ali h (.br 14 (λ_=>.bd λx8 q8=>Ia MN 15 1 q8 <| Ld MN 16 false 1 0 q8 (oU x8) rfl <| .bd λx9 q9=>Cl [] Fo [] (aat (d+0) q9) <| .z 6 [.undef,.undef,.undef,.undef,.undef,.undef,.undef,.undef,.undef,.undef,.undef,.undef,.undef,.undef,.undef,.undef,.undef,.slice none 1 0 0 true,.slice none 5 0 0 true,.undef,.undef,.slice none 2 0 0 true,.slice none 4 0 0 true] <| .st none <| .gd λKV=>Ap kC 25 KV <| E1 [3,11,12,13] [none,none,none,none] [] [.slice none 23 0 0 true,.undef,.undef,.undef]) λ_=>E1 [3] [none] [] [.slice none 23 0 0 true])
theorem V7 (d:Nat) {aM:List (List UInt8)} {s7:Int×List aF} {r:(List aF)} (h:Pg aM s7=some r):bJ (eu (aU (aB aH (d+13)) KK 29 aio) [3,11,12,13] KK) 2 (jg [3,11,12,13] (um aM s7)) (zu aM r) :=
 bY (st:=um aM) (fin:=zu aM) (step:=wY aM) (λe=>by (intro h;cases h)) (λs x h=>V6 d h) KK s7 r h
def Xf (aM:List (List UInt8)):Option (List aF) :=
 (Pg aM (0,[])).bind λ(dV:(List aF))=>some dV
def Mw (aM:List (List UInt8)) (r:List aF):AV×WH:=((vV r),[(some (.cells [(.acc 1 0 1 aM.length true)] false false)),(some (.cells (j_ aM) false true))])
theorem aqN (d:Nat) {aM:List (List UInt8)} {r:List aF} (h:Xf aM=some r):Spec (aB aH (d+14)) 25 [(.ptr (some (0,0)))] [(some (.cells [(.acc 1 0 1 aM.length true)] false false)),(some (.cells (j_ aM) false true))] (Mw aM r).1 (Mw aM r).2:=by
 unfold Xf at h
 exact aX (Hz _) ax7 h (.z 2 [.slice none 23 0 0 true] <| .z 3 [.slice none 23 0 0 true] <| .bd λdV IV=>Lp [Tw,none,none,none] [] [.slice none 23 0 0 true,.undef,.undef,.undef] (V7 (d+0) IV) <| Fn Fo [.slice none 23 0 0 true] none)
abbrev Lj (k:Int) (aM:List (List UInt8)):Fast×WH:=([(0,(.ptr (some (0,0)))),(1,(.int .i64 k))],[(some (.cells [(.acc 1 0 1 aM.length true)] false false)),(some (.cells (j_ aM) false true))])
def Kw (k:Int) (aM:List (List UInt8)):Unit⊕Unit→Ex×Fast×WH:=fun
 | .inl e=>(.ret,[(4,(.bool false))],[(some (.cells [(.acc 1 0 1 aM.length true)] false false)),(some (.cells (j_ aM) false true))])
 | .inr e=>(.normal,[(0,(.ptr (some (0,0)))),(1,(.int .i64 k))],[(some (.cells [(.acc 1 0 1 aM.length true)] false false)),(some (.cells (j_ aM) false true))])
def xK (k:Int) (aM:List (List UInt8)):Option (Unit⊕Unit) :=
 (vB k aM).bind λ(x1:Bool)=>cond (!x1) (some (.inl ())) (cond ((aM.length:Int)==60) (some (.inl ())) (some (.inr ())))
theorem BH (d:Nat) {k:Int} {aM:List (List UInt8)} {r:Unit⊕Unit} (h:xK k aM=some r):bJ (aU (aB aH (d+1)) KK 33 akh) 2 (Lj k aM) (Kw k aM r):=by
 unfold xK at h
 exact bA nB aip h (.bd λx1 q1=>Cl0 (ES (d+0) q1) <| .br 9 (λ_=>E0 [4]) λ_=>.br 16 (λ_=>E0 [4]) λ_=>E0 [0,1])
def Ky (k:Int) (aM:List (List UInt8)):Option (Bool×List (List UInt8)) :=
 (xK k aM).bind λ(x2:Unit⊕Unit)=>cond (jI x2) (some (false,aM)) ((bO aM k).bind λ(x4:List UInt8)=>gd (dh 24 (aM++[x4]).length) (some (true,(aM++[x4]))))
def DF (k:Int) (aM:List (List UInt8)) (r:Bool×List (List UInt8)):AV×WH:=((.bool r.1),[(some (.cells [(.acc 2 0 1 r.2.length true)] false false)),none,(some (.cells (j_ r.2) false true))])
theorem ajm (d:Nat) {k:Int} {aM:List (List UInt8)} {r:Bool×List (List UInt8)} (h:Ky k aM=some r):Spec (aB aH (d+2)) 27 [(.ptr (some (0,0))),(.int .i64 k)] [(some (.cells [(.acc 1 0 1 aM.length true)] false false)),(some (.cells (j_ aM) false true))] (DF k aM r).1 (DF k aM r).2:=by
 unfold Ky at h
 exact aX nB ax8 h (.sk <| .bd λx2 q2=>.ite (λhb3=>Jn [0,1] [none,none] [] [] (jA (il hb3) (BH (d+0) q2)) <| Fn Fo [] Tw) λhb3=>Jn [0,1] [none,none] [] [] (jA (zy hb3) (BH (d+0) q2)) <| .bd λx4 q4=>Ia MN 27 1 q4 <| Ld MN 28 false 1 0 q4 (oU x4) rfl <| .gd λq5=>Ap MN 30 q5 <| .st none <| Fn Fo [] Tw)
end Go.Proofs.YtohoggieaanllaaGreat
