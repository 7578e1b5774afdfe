import Derived.Test.YtohoggieaanllaaGreatK2
import Derived.Test.YtohoggieaanllaaGreatG2
set_option linter.all false
set_option linter.unusedSimpArgs false
namespace Go.Proofs.YtohoggieaanllaaGreat
def Wd:aX:=⟨0,0,⟨0,[],[],[]⟩⟩
theorem acH (x y:aX):(x.Client==y.Client&&(x.Seq==y.Seq&&(x.Op.Kind==y.Op.Kind&&(x.Op.Key==y.Op.Key&&(x.Op.Value==y.Op.Value&&(x.Op.Old==y.Op.Old&&true))))))=true↔x=y:=by
 obtain ⟨a,b,c,d,e,f⟩:=x;obtain ⟨a',b',c',d',e',f'⟩:=y
 simp
instance:DecidableEq aX:=λa b=>decidable_of_iff _ (acH a b)
theorem acI (x y:aX):(x.Client==y.Client&&(x.Seq==y.Seq&&(x.Op.Kind==y.Op.Kind&&(x.Op.Key==y.Op.Key&&(x.Op.Value==y.Op.Value&&(x.Op.Old==y.Op.Old&&true))))))=decide (x=y):=by
 rw [Bool.eq_iff_iff,acH,decide_eq_true_eq]
def Aa (r:aX):Bool:=decide (r=Wd) || decide (iY r)
theorem JB (r:aX):kW r=some (Aa r):=by
 unfold kW
 rw [show (r.Client==0&&(r.Seq==0&&(r.Op.Kind==0&&(r.Op.Key==([]:List UInt8)&&(r.Op.Value==([]:List UInt8)&&(r.Op.Old==([]:List UInt8)&&true))))))=decide (r=Wd) from acI r Wd]
 unfold Aa
 by_cases z:r=Wd
 ·rw [bI z];rfl
 rw [aZ z,cond_false,Bool.false_or]
 by_cases h1:r.Client≥0
 case neg=>rw [aZ h1,aZ (show ¬ iY r by unfold iY;omega)];rfl
 rw [bI h1,cond_true]
 by_cases h2:r.Client < 4
 case neg=>rw [aZ h2,aZ (show ¬ iY r by unfold iY;omega)];rfl
 rw [bI h2,cond_true]
 by_cases h3:r.Seq≥1
 case neg=>rw [aZ h3,aZ (show ¬ iY r by unfold iY;omega)];rfl
 rw [bI h3,cond_true]
 by_cases h4:r.Seq≤4611686018427387903
 case neg=>rw [aZ h4,aZ (show ¬ iY r by unfold iY;omega)];rfl
 rw [bI h4,cond_true,P8,Option.bind_some]
 cases h5:nS r.Op
 ·rw [aZ (show ¬ iY r by unfold iY;rw [h5];simp)]
 ·rw [bI (show iY r by unfold iY;exact ⟨by omega,by omega,by omega,by omega,h5⟩)]
theorem abL {o:aY} (h:nS o=true):1≤o.Kind∧o.Kind≤4∧o.Key.length≤8∧o.Value.length≤16∧o.Old.length≤16:=by
 unfold nS at h
 simp only [Bool.and_eq_true,decide_eq_true_eq] at h
 omega
theorem F7 {r:aX} (h:Aa r=true):vO r.Client∧vO r.Seq∧vO r.Op.Kind∧r.Op.Key.length≤8∧r.Op.Value.length≤16∧r.Op.Old.length≤16:=by
 unfold Aa at h
 rcases Bool.or_eq_true_iff.1 h with h | h
 ·have h:=of_decide_eq_true h
  subst h
  refine ⟨?_, ?_, ?_, ?_, ?_, ?_⟩<;>simp [Wd,vO]
 ·obtain ⟨h1,h2,h3,h4,h5⟩:=of_decide_eq_true h
  have:=abL h5
  unfold vO
  omega
def ZQ (r:aX):List UInt8:=[r.Client,r.Seq,r.Op.Kind].flatMap eN++[r.Op.Key,r.Op.Value,r.Op.Old].flatMap eT
theorem kH (x:Int) (h:vO x):(eN x).length≤9:=by unfold vO at h;exact H_ (by omega)
theorem ZR {r:aX} (h:Aa r=true):(ZQ r).length≤100:=by
 obtain ⟨h1,h2,h3,h4,h5,h6⟩:=F7 h
 have a1:=kH _ h1
 have a2:=kH _ h2
 have a3:=kH _ h3
 have b1:=O4 r.Op.Key (by unfold okS;omega)
 have b2:=O4 r.Op.Value (by unfold okS;omega)
 have b3:=O4 r.Op.Old (by unfold okS;omega)
 unfold ZQ
 simp only [List.flatMap_cons,List.flatMap_nil,List.length_append,List.length_nil]
 omega
theorem XK (b:List UInt8) (r:aX) (hb:b.length < 800000000):xA b r=some (if Aa r then b++ZQ r else []):=by
 unfold xA
 rw [JB,Option.bind_some]
 cases h:Aa r
 ·rfl
 obtain ⟨h1,h2,h3,h4,h5,h6⟩:=F7 h
 have hl:=ZR h
 have hp:=rE b (l:=[r.Client,r.Seq,r.Op.Kind]) (λx hx=>by
  simp only [List.mem_cons,List.not_mem_nil,or_false] at hx
  rcases hx with rfl | rfl | rfl<;>assumption)
 unfold ZQ at hl
 rw [List.length_append] at hl
 simp only [Bool.not_true,cond_false,if_true]
 rw [l7 _ _ (by simp only [List.length_cons,List.length_nil];omega),Option.bind_some,hp,LW _ _ (by rw [List.length_append];omega) (by simp),Option.bind_some]
 unfold ZQ
 rw [List.append_assoc]
def tQ (a:aA):Bool:=decide (0≤a.Why)&&decide (a.Why≤11)&&decide (a.Value.length≤16)
theorem JC (a:aA):iU a=some (tQ a):=by
 unfold iU tQ
 by_cases h1:0≤a.Why
 case neg=>rw [aZ (show ¬ a.Why≥0 by omega)];rfl
 rw [bI (show a.Why≥0 by omega),cond_true,Bool.true_and]
 by_cases h2:a.Why≤11
 case neg=>rw [aZ h2];rfl
 rw [bI h2,cond_true,Bool.true_and]
 congr 1
 rw [decide_eq_decide]
 omega
def XL (a:aA):List UInt8:=eN a.Why++eT a.Value
theorem F8 {a:aA} (h:tQ a=true):vO a.Why∧a.Value.length≤16:=by
 unfold tQ at h
 simp only [Bool.and_eq_true,decide_eq_true_eq] at h
 unfold vO
 omega
theorem TU {a:aA} (h:tQ a=true):(XL a).length≤40:=by
 obtain ⟨h1,h2⟩:=F8 h
 have a1:=kH _ h1
 have b1:=O4 a.Value (by unfold okS;omega)
 unfold XL
 rw [List.length_append]
 omega
theorem NG (b:List UInt8) (a:aA) (hb:b.length < 800000000):l6 b a=some (if tQ a then b++XL a else []):=by
 unfold l6
 rw [JC,Option.bind_some]
 cases h:tQ a
 ·rfl
 obtain ⟨h1,h2⟩:=F8 h
 have hl:=TU h
 have hp:=rE b (l:=[a.Why]) (λx hx=>by
  rw [List.mem_singleton.1 hx]
  exact h1)
 unfold XL at hl
 rw [List.length_append] at hl
 simp only [Bool.not_true,cond_false,if_true]
 rw [l7 _ _ (by simp only [List.length_cons,List.length_nil];omega),Option.bind_some,hp,LW _ _ (by simp only [List.flatMap_cons,List.flatMap_nil,List.append_nil,List.length_append];omega) (by simp),Option.bind_some]
 unfold XL
 simp
def ZT (x:aD):Bool:=decide (x.fB=0)&&decide (x.Epoch=0)&&decide (x.Pairs.length=0)&&decide (x.gB.length=0)
theorem abM (x:aD):BF x=some (ZT x):=by
 unfold BF ZT
 simp only [WX]
 by_cases h1:x.fB=0
 case neg=>rw [aZ h1];rfl
 rw [bI h1,cond_true,Bool.true_and]
 by_cases h2:x.Epoch=0
 case neg=>rw [aZ h2];rfl
 rw [bI h2,cond_true,Bool.true_and]
 by_cases h3:x.Pairs.length=0
 case neg=>rw [aZ h3,aZ (show ¬ ((x.Pairs.length:Int)=0) by omega)];rfl
 rw [bI h3,bI (show ((x.Pairs.length:Int)=0) by omega),cond_true,Bool.true_and]
 congr 1
 rw [decide_eq_decide]
 omega
def Ab (x:aD):Bool:=ZT x || decide (z_ x)
theorem Fb (x:aD) (h1:x.Pairs.length < 1000000) (h2:x.gB.length < 1000000):jv x=some (Ab x):=by
 unfold jv Ab
 rw [abM,Option.bind_some]
 cases ZT x
 ·rw [cond_false,ahN x h1 h2];rfl
 ·rfl
theorem akF (l:List au):OkP (UZ [] l):=alY l [] λp hp=>by simp at hp
theorem F9 {x:aD} (h:Ab x=true):vO x.fB∧vO x.Epoch∧x.Pairs.length≤8∧x.gB.length≤4∧(∀ p∈x.Pairs,p.Key.length≤8∧p.Value.length≤16)∧∀ s∈x.gB,vO s.Client∧vO s.Seq∧tQ s.Answer=true:=by
 unfold Ab at h
 rcases Bool.or_eq_true_iff.1 h with h | h
 ·unfold ZT at h
  simp only [Bool.and_eq_true,decide_eq_true_eq] at h
  obtain ⟨⟨⟨a,b⟩,c⟩,d⟩:=h
  have c:=List.eq_nil_of_length_eq_zero c
  have d:=List.eq_nil_of_length_eq_zero d
  rw [a,b,c,d]
  refine ⟨by simp [vO],by simp [vO],by simp,by simp,by simp,by simp⟩
 ·obtain ⟨h1,h2,h3,h4,h5,h6,h7⟩:=of_decide_eq_true h
  have hT:=(XI x.Pairs [] ok0).2
  have hP:=akF x.Pairs
  have hS:=JR (ofS x.gB)
  have hG:=ahM x.gB
  rw [h5] at hT hP
  rw [h6] at hS
  refine ⟨by unfold vO;omega,by unfold vO;omega,hT,hS,λp hp=>?_,λs hs=>?_⟩
  ·have:=hP p hp
   unfold ahJ at this
   simp only [Bool.or_eq_false_iff,decide_eq_false_iff_not] at this
   omega
  ·have ha:U0 s=true:=by
    rw [List.any_eq_false] at h7
    have:=h7 s hs
    simpa using this
   have hm:s∈iX (ofS x.gB):=by rw [h6];exact hs
   have hc:0 < s.Seq∧0≤s.Client∧s.Client < 4:=by
    unfold iX at hm
    rw [List.mem_filter] at hm
    obtain ⟨m,p⟩:=hm
    have p:=of_decide_eq_true p
    obtain ⟨g0,g1,g2,g3⟩:=hG
    simp only [A4.Lb,List.mem_cons,List.not_mem_nil,or_false] at m
    rcases m with rfl | rfl | rfl | rfl
    ·rcases g0 with k | ⟨_,k⟩<;>omega
    ·rcases g1 with k | ⟨_,k⟩<;>omega
    ·rcases g2 with k | ⟨_,k⟩<;>omega
    ·rcases g3 with k | ⟨_,k⟩<;>omega
   unfold U0 at ha
   simp only [Bool.and_eq_true,Bool.or_eq_true,decide_eq_true_eq] at ha
   refine ⟨by unfold vO;omega,by unfold vO;omega, ?_⟩
   unfold tQ
   simp only [Bool.and_eq_true,decide_eq_true_eq]
   omega
def yj (p:au):List UInt8:=eT p.Key++eT p.Value
def zI (s:ak):List UInt8:=[s.Client,s.Seq].flatMap eN++XL s.Answer
def adP (x:aD):List UInt8:=[x.fB,x.Epoch].flatMap eN++(eN (x.Pairs.length:Int)++(x.Pairs.flatMap yj++(eN (x.gB.length:Int)++x.gB.flatMap zI)))
theorem yK {α:Type} (e:α→List UInt8) (m:Nat):∀ (l:List α),(∀ x∈l,(e x).length≤m)→(l.flatMap e).length≤m * l.length
 | [],_=>by simp
 | x::l,h=>by
  have h1:=yK e m l λy hy=>h y (by simp [hy])
  have h2:=h x (by simp)
  rw [List.flatMap_cons,List.length_append,List.length_cons,Nat.mul_add]
  omega
theorem O7 {α:Type} (e:α→List UInt8) (l:List α) (i:Nat):((l.take i).flatMap e).length≤(l.flatMap e).length:=by
 have:(l.flatMap e).length=((l.take i).flatMap e).length+((l.drop i).flatMap e).length:=by
  rw [← List.length_append,← List.flatMap_append,List.take_append_drop]
 omega
theorem Wh {p:au} (h:p.Key.length≤8∧p.Value.length≤16):(yj p).length≤60:=by
 have b1:=O4 p.Key (by unfold okS;omega)
 have b2:=O4 p.Value (by unfold okS;omega)
 unfold yj
 rw [List.length_append]
 omega
theorem Wi {s:ak} (h:vO s.Client∧vO s.Seq∧tQ s.Answer=true):(zI s).length≤60:=by
 have a1:=kH _ h.1
 have a2:=kH _ h.2.1
 have b1:=TU h.2.2
 unfold zI
 simp only [List.flatMap_cons,List.flatMap_nil,List.length_append,List.length_nil]
 omega
theorem TV {x:aD} (h:Ab x=true):(x.Pairs.flatMap yj).length≤480∧(x.gB.flatMap zI).length≤240∧(adP x).length≤800:=by
 obtain ⟨h1,h2,h3,h4,h5,h6⟩:=F9 h
 have a1:=kH _ h1
 have a2:=kH _ h2
 have a3:=kH (x.Pairs.length:Int) (by unfold vO;omega)
 have a4:=kH (x.gB.length:Int) (by unfold vO;omega)
 have b1:=yK yj 60 x.Pairs λp hp=>Wh (h5 p hp)
 have b2:=yK zI 60 x.gB λp hp=>Wi (h6 p hp)
 have m1:60 * x.Pairs.length≤480:=by omega
 have m2:60 * x.gB.length≤240:=by omega
 refine ⟨by omega,by omega, ?_⟩
 unfold adP
 simp only [List.flatMap_cons,List.flatMap_nil,List.length_append,List.length_nil]
 omega
theorem TW (b:List UInt8) (x:aD) (hb:b.length < 700000000) (h1:x.Pairs.length < 1000000) (h2:x.gB.length < 1000000):rz b x=some (if Ab x then b++adP x else []):=by
 unfold rz
 rw [Fb x h1 h2,Option.bind_some]
 cases h:Ab x
 ·rfl
 obtain ⟨g1,g2,g3,g4,g5,g6⟩:=F9 h
 obtain ⟨c1,c2,c3⟩:=TV h
 have a1:=kH _ g1
 have a2:=kH _ g2
 have a3:=kH (x.Pairs.length:Int) (by unfold vO;omega)
 have a4:=kH (x.gB.length:Int) (by unfold vO;omega)
 have hp:=rE b (l:=[x.fB,x.Epoch,(x.Pairs.length:Int)]) (λz hz=>by
  simp only [List.mem_cons,List.not_mem_nil,or_false] at hz
  rcases hz with rfl | rfl | rfl
  ·exact g1
  ·exact g2
  ·unfold vO;omega)
 simp only [Bool.not_true,cond_false,if_true]
 rw [l7 _ _ (by simp only [List.length_cons,List.length_nil];omega),Option.bind_some,hp]
 generalize hB:b++[x.fB,x.Epoch,(x.Pairs.length:Int)].flatMap eN=B at *
 have hBl:B.length≤b.length+27:=by
  rw [← hB]
  simp only [List.flatMap_cons,List.flatMap_nil,List.length_append,List.length_nil]
  omega
 have l0:qx x (B,0)=some (B++x.Pairs.flatMap yj):=by
  have e0:(B,(0:Int))=(B++(x.Pairs.take 0).flatMap yj,((0:Nat):Int)):=by simp
  unfold qx
  rw [e0]
  refine qM (λi=>(B++(x.Pairs.take i).flatMap yj,(i:Int))) x.Pairs.length _ (λi hi=>?_) ?_ (by omega)
  ·have h5:(x.Pairs.take (i+1)).flatMap yj=(x.Pairs.take i).flatMap yj++yj x.Pairs[i]:=by
    rw [List.take_succ_eq_append_getElem hi,List.flatMap_append]
    simp
   have h6:=O7 yj x.Pairs i
   have h7:=Wh (g5 _ (List.getElem_mem hi))
   unfold yj at h7
   rw [List.length_append] at h7
   unfold iZ
   simp only
   rw [bI (by omega),cond_true,fA hi,Option.bind_some,LW _ _ (by simp only [List.length_append,List.flatMap_cons,List.flatMap_nil,List.length_nil];omega) (by simp),Option.bind_some,fG (by omega) (by omega),fE,h5]
   unfold yj
   simp
  ·unfold iZ
   simp only
   rw [aZ (by omega),cond_false,List.take_length]
 rw [l0,Option.bind_some]
 have hp2:=rE (B++x.Pairs.flatMap yj) (l:=[(x.gB.length:Int)]) (λz hz=>by
  rw [List.mem_singleton.1 hz]
  unfold vO
  omega)
 rw [l7 _ _ (by simp only [List.length_append,List.length_cons,List.length_nil];omega),Option.bind_some,hp2]
 generalize hD:B++x.Pairs.flatMap yj++[(x.gB.length:Int)].flatMap eN=D at *
 have hDl:D.length≤b.length+600:=by
  rw [← hD]
  simp only [List.flatMap_cons,List.flatMap_nil,List.length_append,List.length_nil]
  omega
 have l1:qy x (D,0)=some (D++x.gB.flatMap zI):=by
  have e0:(D,(0:Int))=(D++(x.gB.take 0).flatMap zI,((0:Nat):Int)):=by simp
  unfold qy
  rw [e0]
  refine qM (λi=>(D++(x.gB.take i).flatMap zI,(i:Int))) x.gB.length _ (λi hi=>?_) ?_ (by omega)
  ·have h5:(x.gB.take (i+1)).flatMap zI=(x.gB.take i).flatMap zI++zI x.gB[i]:=by
    rw [List.take_succ_eq_append_getElem hi,List.flatMap_append]
    simp
   have h6:=O7 zI x.gB i
   obtain ⟨q1,q2,q3⟩:=g6 _ (List.getElem_mem hi)
   have h7:=Wi ⟨q1,q2,q3⟩
   unfold zI at h7
   rw [List.length_append] at h7
   have hp3:=rE (D++(x.gB.take i).flatMap zI) (l:=[x.gB[i].Client,x.gB[i].Seq]) (λz hz=>by
    simp only [List.mem_cons,List.not_mem_nil,or_false] at hz
    rcases hz with rfl | rfl<;>assumption)
   unfold jc
   simp only
   rw [bI (by omega),cond_true,fA hi,Option.bind_some,l7 _ _ (by simp only [List.length_append,List.length_cons,List.length_nil];omega),Option.bind_some,hp3,NG _ _ (by simp only [List.length_append];omega),q3,Option.bind_some,fG (by omega) (by omega),fE,h5]
   unfold zI
   simp
  ·unfold jc
   simp only
   rw [aZ (by omega),cond_false,List.take_length]
 rw [l1,Option.bind_some,← hD,← hB]
 unfold adP
 simp
end Go.Proofs.YtohoggieaanllaaGreat
