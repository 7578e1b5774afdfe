import Derived.Test.YtohoggieaanllaaGreatK2
import Derived.Test.YtohoggieaanllaaGreatG2
set_option linter.all false
set_option linter.unusedSimpArgs false
namespace Go.Proofs.YtohoggieaanllaaGreat
def Iy:bn:=⟨0,0,⟨0,[],[],[]⟩⟩
theorem akq (x y:bn):(x.Client==y.Client&&(x.Seq==y.Seq&&(x.Op.Kind==y.Op.Kind&&(x.Op.Key==y.Op.Key&&(x.Op.Value==y.Op.Value&&(x.Op.Old==y.Op.Old&&true))))))=true↔x=y:=by
 obtain ⟨a,b,c,d,e,f⟩:=x;obtain ⟨a',b',c',d',e',f'⟩:=y
 simp
instance:DecidableEq bn:=λa b=>decidable_of_iff _ (akq a b)
theorem aeR (x y:bn):(x.Client==y.Client&&(x.Seq==y.Seq&&(x.Op.Kind==y.Op.Kind&&(x.Op.Key==y.Op.Key&&(x.Op.Value==y.Op.Value&&(x.Op.Old==y.Op.Old&&true))))))=decide (x=y):=by
 rw [Bool.eq_iff_iff,akq,decide_eq_true_eq]
def vK (r:bn):Bool:=decide (r=Iy) || decide (jQ r)
theorem Gx (r:bn):nC r=some (vK r):=by
 unfold nC
 rw [show (r.Client==0&&(r.Seq==0&&(r.Op.Kind==0&&(r.Op.Key==([]:List UInt8)&&(r.Op.Value==([]:List UInt8)&&(r.Op.Old==([]:List UInt8)&&true))))))=decide (r=Iy) from aeR r Iy]
 unfold vK
 by_cases z:r=Iy
 ·rw [aZ z];rfl
 rw [aV z,cond_false,Bool.false_or]
 by_cases h1:r.Client≥0
 case neg=>rw [aV h1,aV (show ¬ jQ r by unfold jQ;omega)];rfl
 rw [aZ h1,cond_true]
 by_cases h2:r.Client < 4
 case neg=>rw [aV h2,aV (show ¬ jQ r by unfold jQ;omega)];rfl
 rw [aZ h2,cond_true]
 by_cases h3:r.Seq≥1
 case neg=>rw [aV h3,aV (show ¬ jQ r by unfold jQ;omega)];rfl
 rw [aZ h3,cond_true]
 by_cases h4:r.Seq≤4611686018427387903
 case neg=>rw [aV h4,aV (show ¬ jQ r by unfold jQ;omega)];rfl
 rw [aZ h4,cond_true,Xj,Option.bind_some]
 cases h5:qU r.Op
 ·rw [aV (show ¬ jQ r by unfold jQ;rw [h5];simp)]
 ·rw [aZ (show jQ r by unfold jQ;exact ⟨by omega,by omega,by omega,by omega,h5⟩)]
theorem ajw {o:bD} (h:qU o=true):1≤o.Kind∧o.Kind≤4∧o.Key.length≤8∧o.Value.length≤16∧o.Old.length≤16:=by
 unfold qU at h
 simp only [Bool.and_eq_true,decide_eq_true_eq] at h
 omega
theorem Lu {r:bn} (h:vK r=true):uz r.Client∧uz r.Seq∧uz r.Op.Kind∧r.Op.Key.length≤8∧r.Op.Value.length≤16∧r.Op.Old.length≤16:=by
 unfold vK at h
 rcases Bool.or_eq_true_iff.1 h with h | h
 ·have h:=of_decide_eq_true h
  subst h
  refine ⟨?_, ?_, ?_, ?_, ?_, ?_⟩<;>simp [Iy,uz]
 ·obtain ⟨h1,h2,h3,h4,h5⟩:=of_decide_eq_true h
  have:=ajw h5
  unfold uz
  omega
def ahf (r:bn):List UInt8:=[r.Client,r.Seq,r.Op.Kind].flatMap eN++[r.Op.Key,r.Op.Value,r.Op.Old].flatMap eT
theorem mH (x:Int) (h:uz x):(eN x).length≤9:=by unfold uz at h;exact Ny (by omega)
theorem ahg {r:bn} (h:vK r=true):(ahf r).length≤100:=by
 obtain ⟨h1,h2,h3,h4,h5,h6⟩:=Lu h
 have a1:=mH _ h1
 have a2:=mH _ h2
 have a3:=mH _ h3
 have b1:=V8 r.Op.Key (by unfold okS;omega)
 have b2:=V8 r.Op.Value (by unfold okS;omega)
 have b3:=V8 r.Op.Old (by unfold okS;omega)
 unfold ahf
 simp only [List.flatMap_cons,List.flatMap_nil,List.length_append,List.length_nil]
 omega
theorem aeS (b:List UInt8) (r:bn) (hb:b.length < 800000000):AY b r=some (if vK r then b++ahf r else []):=by
 unfold AY
 rw [Gx,Option.bind_some]
 cases h:vK r
 ·rfl
 obtain ⟨h1,h2,h3,h4,h5,h6⟩:=Lu h
 have hl:=ahg h
 have hp:=vH b (l:=[r.Client,r.Seq,r.Op.Kind]) (λx hx=>by
  simp only [List.mem_cons,List.not_mem_nil,or_false] at hx
  rcases hx with rfl | rfl | rfl<;>assumption)
 unfold ahf at hl
 rw [List.length_append] at hl
 simp only [Bool.not_true,cond_false,if_true]
 rw [oI _ _ (by simp only [List.length_cons,List.length_nil];omega),Option.bind_some,hp,Sj _ _ (by rw [List.length_append];omega) (by simp),Option.bind_some]
 unfold ahf
 rw [List.append_assoc]
def sF (a:aD):Bool:=decide (0≤a.Why)&&decide (a.Why≤11)&&decide (a.Value.length≤16)
theorem Bg (a:aD):jL a=some (sF a):=by
 unfold jL sF
 by_cases h1:0≤a.Why
 case neg=>rw [aV (show ¬ a.Why≥0 by omega)];rfl
 rw [aZ (show a.Why≥0 by omega),cond_true,Bool.true_and]
 by_cases h2:a.Why≤11
 case neg=>rw [aV h2];rfl
 rw [aZ h2,cond_true,Bool.true_and]
 congr 1
 rw [decide_eq_decide]
 omega
def aeT (a:aD):List UInt8:=eN a.Why++eT a.Value
theorem Lv {a:aD} (h:sF a=true):uz a.Why∧a.Value.length≤16:=by
 unfold sF at h
 simp only [Bool.and_eq_true,decide_eq_true_eq] at h
 unfold uz
 omega
theorem aaJ {a:aD} (h:sF a=true):(aeT a).length≤40:=by
 obtain ⟨h1,h2⟩:=Lv h
 have a1:=mH _ h1
 have b1:=V8 a.Value (by unfold okS;omega)
 unfold aeT
 rw [List.length_append]
 omega
theorem UF (b:List UInt8) (a:aD) (hb:b.length < 800000000):oH b a=some (if sF a then b++aeT a else []):=by
 unfold oH
 rw [Bg,Option.bind_some]
 cases h:sF a
 ·rfl
 obtain ⟨h1,h2⟩:=Lv h
 have hl:=aaJ h
 have hp:=vH b (l:=[a.Why]) (λx hx=>by
  rw [List.mem_singleton.1 hx]
  exact h1)
 unfold aeT at hl
 rw [List.length_append] at hl
 simp only [Bool.not_true,cond_false,if_true]
 rw [oI _ _ (by simp only [List.length_cons,List.length_nil];omega),Option.bind_some,hp,Sj _ _ (by simp only [List.flatMap_cons,List.flatMap_nil,List.append_nil,List.length_append];omega) (by simp),Option.bind_some]
 unfold aeT
 simp
def aaK (x:aA):Bool:=decide (x.eY=0)&&decide (x.Epoch=0)&&decide (x.Pairs.length=0)&&decide (x.dX.length=0)
theorem aaL (x:aA):F4 x=some (aaK x):=by
 unfold F4 aaK
 simp only [aj8]
 by_cases h1:x.eY=0
 case neg=>rw [aV h1];rfl
 rw [aZ h1,cond_true,Bool.true_and]
 by_cases h2:x.Epoch=0
 case neg=>rw [aV h2];rfl
 rw [aZ h2,cond_true,Bool.true_and]
 by_cases h3:x.Pairs.length=0
 case neg=>rw [aV h3,aV (show ¬ ((x.Pairs.length:Int)=0) by omega)];rfl
 rw [aZ h3,aZ (show ((x.Pairs.length:Int)=0) by omega),cond_true,Bool.true_and]
 congr 1
 rw [decide_eq_decide]
 omega
def qV (x:aA):Bool:=aaK x || decide (Cj x)
theorem Ck (x:aA) (h1:x.Pairs.length < 1000000) (h2:x.dX.length < 1000000):kI x=some (qV x):=by
 unfold kI qV
 rw [aaL,Option.bind_some]
 cases aaK x
 ·rw [cond_false,ahe x h1 h2];rfl
 ·rfl
theorem auy (l:List au):OkP (ofP [] l):=aqn l [] λp hp=>by simp at hp
theorem Bh {x:aA} (h:qV x=true):uz x.eY∧uz x.Epoch∧x.Pairs.length≤8∧x.dX.length≤4∧(∀ p∈x.Pairs,p.Key.length≤8∧p.Value.length≤16)∧∀ s∈x.dX,uz s.Client∧uz s.Seq∧sF s.Answer=true:=by
 unfold qV at h
 rcases Bool.or_eq_true_iff.1 h with h | h
 ·unfold aaK at h
  simp only [Bool.and_eq_true,decide_eq_true_eq] at h
  obtain ⟨⟨⟨a,b⟩,c⟩,d⟩:=h
  have c:=List.eq_nil_of_length_eq_zero c
  have d:=List.eq_nil_of_length_eq_zero d
  rw [a,b,c,d]
  refine ⟨by simp [uz],by simp [uz],by simp,by simp,by simp,by simp⟩
 ·obtain ⟨h1,h2,h3,h4,h5,h6,h7⟩:=of_decide_eq_true h
  have hT:=(aaE x.Pairs [] ok0).2
  have hP:=auy x.Pairs
  have hS:=Ll (ofS x.dX)
  have hG:=aqr x.dX
  rw [h5] at hT hP
  rw [h6] at hS
  refine ⟨by unfold uz;omega,by unfold uz;omega,hT,hS,λp hp=>?_,λs hs=>?_⟩
  ·have:=hP p hp
   unfold ajv at this
   simp only [Bool.or_eq_false_iff,decide_eq_false_iff_not] at this
   omega
  ·have ha:Yc s=true:=by
    rw [List.any_eq_false] at h7
    have:=h7 s hs
    simpa using this
   have hm:s∈iy (ofS x.dX):=by rw [h6];exact hs
   have hc:0 < s.Seq∧0≤s.Client∧s.Client < 4:=by
    unfold iy at hm
    rw [List.mem_filter] at hm
    obtain ⟨m,p⟩:=hm
    have p:=of_decide_eq_true p
    obtain ⟨g0,g1,g2,g3⟩:=hG
    simp only [A4.Rn,List.mem_cons,List.not_mem_nil,or_false] at m
    rcases m with rfl | rfl | rfl | rfl
    ·rcases g0 with k | ⟨_,k⟩<;>omega
    ·rcases g1 with k | ⟨_,k⟩<;>omega
    ·rcases g2 with k | ⟨_,k⟩<;>omega
    ·rcases g3 with k | ⟨_,k⟩<;>omega
   unfold Yc at ha
   simp only [Bool.and_eq_true,Bool.or_eq_true,decide_eq_true_eq] at ha
   refine ⟨by unfold uz;omega,by unfold uz;omega, ?_⟩
   unfold sF
   simp only [Bool.and_eq_true,decide_eq_true_eq]
   omega
def BI (p:au):List UInt8:=eT p.Key++eT p.Value
def DJ (s:ak):List UInt8:=[s.Client,s.Seq].flatMap eN++aeT s.Answer
def alW (x:aA):List UInt8:=[x.eY,x.Epoch].flatMap eN++(eN (x.Pairs.length:Int)++(x.Pairs.flatMap BI++(eN (x.dX.length:Int)++x.dX.flatMap DJ)))
theorem Cm {α:Type} (e:α→List UInt8) (m:Nat):∀ (l:List α),(∀ x∈l,(e x).length≤m)→(l.flatMap e).length≤m * l.length
 | [],_=>by simp
 | x::l,h=>by
  have h1:=Cm e m l λy hy=>h y (by simp [hy])
  have h2:=h x (by simp)
  rw [List.flatMap_cons,List.length_append,List.length_cons,Nat.mul_add]
  omega
theorem Wh {α:Type} (e:α→List UInt8) (l:List α) (i:Nat):((l.take i).flatMap e).length≤(l.flatMap e).length:=by
 have:(l.flatMap e).length=((l.take i).flatMap e).length+((l.drop i).flatMap e).length:=by
  rw [← List.length_append,← List.flatMap_append,List.take_append_drop]
 omega
theorem ado {p:au} (h:p.Key.length≤8∧p.Value.length≤16):(BI p).length≤60:=by
 have b1:=V8 p.Key (by unfold okS;omega)
 have b2:=V8 p.Value (by unfold okS;omega)
 unfold BI
 rw [List.length_append]
 omega
theorem adp {s:ak} (h:uz s.Client∧uz s.Seq∧sF s.Answer=true):(DJ s).length≤60:=by
 have a1:=mH _ h.1
 have a2:=mH _ h.2.1
 have b1:=aaJ h.2.2
 unfold DJ
 simp only [List.flatMap_cons,List.flatMap_nil,List.length_append,List.length_nil]
 omega
theorem aaM {x:aA} (h:qV x=true):(x.Pairs.flatMap BI).length≤480∧(x.dX.flatMap DJ).length≤240∧(alW x).length≤800:=by
 obtain ⟨h1,h2,h3,h4,h5,h6⟩:=Bh h
 have a1:=mH _ h1
 have a2:=mH _ h2
 have a3:=mH (x.Pairs.length:Int) (by unfold uz;omega)
 have a4:=mH (x.dX.length:Int) (by unfold uz;omega)
 have b1:=Cm BI 60 x.Pairs λp hp=>ado (h5 p hp)
 have b2:=Cm DJ 60 x.dX λp hp=>adp (h6 p hp)
 have m1:60 * x.Pairs.length≤480:=by omega
 have m2:60 * x.dX.length≤240:=by omega
 refine ⟨by omega,by omega, ?_⟩
 unfold alW
 simp only [List.flatMap_cons,List.flatMap_nil,List.length_append,List.length_nil]
 omega
theorem aaN (b:List UInt8) (x:aA) (hb:b.length < 700000000) (h1:x.Pairs.length < 1000000) (h2:x.dX.length < 1000000):vg b x=some (if qV x then b++alW x else []):=by
 unfold vg
 rw [Ck x h1 h2,Option.bind_some]
 cases h:qV x
 ·rfl
 obtain ⟨g1,g2,g3,g4,g5,g6⟩:=Bh h
 obtain ⟨c1,c2,c3⟩:=aaM h
 have a1:=mH _ g1
 have a2:=mH _ g2
 have a3:=mH (x.Pairs.length:Int) (by unfold uz;omega)
 have a4:=mH (x.dX.length:Int) (by unfold uz;omega)
 have hp:=vH b (l:=[x.eY,x.Epoch,(x.Pairs.length:Int)]) (λz hz=>by
  simp only [List.mem_cons,List.not_mem_nil,or_false] at hz
  rcases hz with rfl | rfl | rfl
  ·exact g1
  ·exact g2
  ·unfold uz;omega)
 simp only [Bool.not_true,cond_false,if_true]
 rw [oI _ _ (by simp only [List.length_cons,List.length_nil];omega),Option.bind_some,hp]
 generalize hB:b++[x.eY,x.Epoch,(x.Pairs.length:Int)].flatMap eN=B at *
 have hBl:B.length≤b.length+27:=by
  rw [← hB]
  simp only [List.flatMap_cons,List.flatMap_nil,List.length_append,List.length_nil]
  omega
 have l0:t_ x (B,0)=some (B++x.Pairs.flatMap BI):=by
  have e0:(B,(0:Int))=(B++(x.Pairs.take 0).flatMap BI,((0:Nat):Int)):=by simp
  unfold t_
  rw [e0]
  refine qK (λi=>(B++(x.Pairs.take i).flatMap BI,(i:Int))) x.Pairs.length _ (λi hi=>?_) ?_ (by omega)
  ·have h5:(x.Pairs.take (i+1)).flatMap BI=(x.Pairs.take i).flatMap BI++BI x.Pairs[i]:=by
    rw [List.take_succ_eq_append_getElem hi,List.flatMap_append]
    simp
   have h6:=Wh BI x.Pairs i
   have h7:=ado (g5 _ (List.getElem_mem hi))
   unfold BI at h7
   rw [List.length_append] at h7
   unfold jT
   simp only
   rw [aZ (by omega),cond_true,dI hi,Option.bind_some,Sj _ _ (by simp only [List.length_append,List.flatMap_cons,List.flatMap_nil,List.length_nil];omega) (by simp),Option.bind_some,bU (by omega) (by omega),cO,h5]
   unfold BI
   simp
  ·unfold jT
   simp only
   rw [aV (by omega),cond_false,List.take_length]
 rw [l0,Option.bind_some]
 have hp2:=vH (B++x.Pairs.flatMap BI) (l:=[(x.dX.length:Int)]) (λz hz=>by
  rw [List.mem_singleton.1 hz]
  unfold uz
  omega)
 rw [oI _ _ (by simp only [List.length_append,List.length_cons,List.length_nil];omega),Option.bind_some,hp2]
 generalize hD:B++x.Pairs.flatMap BI++[(x.dX.length:Int)].flatMap eN=D at *
 have hDl:D.length≤b.length+600:=by
  rw [← hD]
  simp only [List.flatMap_cons,List.flatMap_nil,List.length_append,List.length_nil]
  omega
 have l1:uf x (D,0)=some (D++x.dX.flatMap DJ):=by
  have e0:(D,(0:Int))=(D++(x.dX.take 0).flatMap DJ,((0:Nat):Int)):=by simp
  unfold uf
  rw [e0]
  refine qK (λi=>(D++(x.dX.take i).flatMap DJ,(i:Int))) x.dX.length _ (λi hi=>?_) ?_ (by omega)
  ·have h5:(x.dX.take (i+1)).flatMap DJ=(x.dX.take i).flatMap DJ++DJ x.dX[i]:=by
    rw [List.take_succ_eq_append_getElem hi,List.flatMap_append]
    simp
   have h6:=Wh DJ x.dX i
   obtain ⟨q1,q2,q3⟩:=g6 _ (List.getElem_mem hi)
   have h7:=adp ⟨q1,q2,q3⟩
   unfold DJ at h7
   rw [List.length_append] at h7
   have hp3:=vH (D++(x.dX.take i).flatMap DJ) (l:=[x.dX[i].Client,x.dX[i].Seq]) (λz hz=>by
    simp only [List.mem_cons,List.not_mem_nil,or_false] at hz
    rcases hz with rfl | rfl<;>assumption)
   unfold jU
   simp only
   rw [aZ (by omega),cond_true,dI hi,Option.bind_some,oI _ _ (by simp only [List.length_append,List.length_cons,List.length_nil];omega),Option.bind_some,hp3,UF _ _ (by simp only [List.length_append];omega),q3,Option.bind_some,bU (by omega) (by omega),cO,h5]
   unfold DJ
   simp
  ·unfold jU
   simp only
   rw [aV (by omega),cond_false,List.take_length]
 rw [l1,Option.bind_some,← hD,← hB]
 unfold alW
 simp
end Go.Proofs.YtohoggieaanllaaGreat
