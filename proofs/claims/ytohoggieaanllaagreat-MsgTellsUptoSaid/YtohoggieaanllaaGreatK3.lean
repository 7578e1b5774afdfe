import Derived.Test.YtohoggieaanllaaGreatK2
import Derived.Test.YtohoggieaanllaaGreatG2
set_option linter.all false
set_option linter.unusedSimpArgs false
namespace Go.Proofs.YtohoggieaanllaaGreat
def Ct:aU:=⟨0,0,⟨0,[],[],[]⟩⟩
theorem akM (x y:aU):(x.Client==y.Client&&(x.Seq==y.Seq&&(x.Op.Kind==y.Op.Kind&&(x.Op.Key==y.Op.Key&&(x.Op.Value==y.Op.Value&&(x.Op.Old==y.Op.Old&&true))))))=true↔x=y:=by
 obtain ⟨a,b,c,d,e,f⟩:=x;obtain ⟨a',b',c',d',e',f'⟩:=y
 simp
instance:DecidableEq aU:=λa b=>decidable_of_iff _ (akM a b)
theorem Zi (x y:aU):(x.Client==y.Client&&(x.Seq==y.Seq&&(x.Op.Kind==y.Op.Kind&&(x.Op.Key==y.Op.Key&&(x.Op.Value==y.Op.Value&&(x.Op.Old==y.Op.Old&&true))))))=decide (x=y):=by
 rw [Bool.eq_iff_iff,akM,decide_eq_true_eq]
def nK (r:aU):Bool:=decide (r=Ct) || decide (kG r)
theorem Ho (r:aU):oo r=some (nK r):=by
 unfold oo
 rw [show (r.Client==0&&(r.Seq==0&&(r.Op.Kind==0&&(r.Op.Key==([]:List UInt8)&&(r.Op.Value==([]:List UInt8)&&(r.Op.Old==([]:List UInt8)&&true))))))=decide (r=Ct) from Zi r Ct]
 unfold nK
 by_cases z:r=Ct
 ·rw [bf z];rfl
 rw [aT z,cond_false,Bool.false_or]
 by_cases h1:r.Client≥0
 case neg=>rw [aT h1,aT (show ¬ kG r by unfold kG;omega)];rfl
 rw [bf h1,cond_true]
 by_cases h2:r.Client < 4
 case neg=>rw [aT h2,aT (show ¬ kG r by unfold kG;omega)];rfl
 rw [bf h2,cond_true]
 by_cases h3:r.Seq≥1
 case neg=>rw [aT h3,aT (show ¬ kG r by unfold kG;omega)];rfl
 rw [bf h3,cond_true]
 by_cases h4:r.Seq≤4611686018427387903
 case neg=>rw [aT h4,aT (show ¬ kG r by unfold kG;omega)];rfl
 rw [bf h4,cond_true,XV,Option.bind_some]
 cases h5:sj r.Op
 ·rw [aT (show ¬ kG r by unfold kG;rw [h5];simp)]
 ·rw [bf (show kG r by unfold kG;exact ⟨by omega,by omega,by omega,by omega,h5⟩)]
theorem ajZ {o:bE} (h:sj o=true):1≤o.Kind∧o.Kind≤4∧o.Key.length≤8∧o.Value.length≤16∧o.Old.length≤16:=by
 unfold sj at h
 simp only [Bool.and_eq_true,decide_eq_true_eq] at h
 omega
theorem Mh {r:aU} (h:nK r=true):vG r.Client∧vG r.Seq∧vG r.Op.Kind∧r.Op.Key.length≤8∧r.Op.Value.length≤16∧r.Op.Old.length≤16:=by
 unfold nK at h
 rcases Bool.or_eq_true_iff.1 h with h | h
 ·have h:=of_decide_eq_true h
  subst h
  refine ⟨?_, ?_, ?_, ?_, ?_, ?_⟩<;>simp [Ct,vG]
 ·obtain ⟨h1,h2,h3,h4,h5⟩:=of_decide_eq_true h
  have:=ajZ h5
  unfold vG
  omega
def abn (r:aU):List UInt8:=[r.Client,r.Seq,r.Op.Kind].flatMap eN++[r.Op.Key,r.Op.Value,r.Op.Old].flatMap eT
theorem kR (x:Int) (h:vG x):(eN x).length≤9:=by unfold vG at h;exact Oc (by omega)
theorem abo {r:aU} (h:nK r=true):(abn r).length≤100:=by
 obtain ⟨h1,h2,h3,h4,h5,h6⟩:=Mh h
 have a1:=kR _ h1
 have a2:=kR _ h2
 have a3:=kR _ h3
 have b1:=W_ r.Op.Key (by unfold okS;omega)
 have b2:=W_ r.Op.Value (by unfold okS;omega)
 have b3:=W_ r.Op.Old (by unfold okS;omega)
 unfold abn
 simp only [List.flatMap_cons,List.flatMap_nil,List.length_append,List.length_nil]
 omega
theorem afs (b:List UInt8) (r:aU) (hb:b.length < 800000000):BD b r=some (if nK r then b++abn r else []):=by
 unfold BD
 rw [Ho,Option.bind_some]
 cases h:nK r
 ·rfl
 obtain ⟨h1,h2,h3,h4,h5,h6⟩:=Mh h
 have hl:=abo h
 have hp:=jE b (l:=[r.Client,r.Seq,r.Op.Kind]) (λx hx=>by
  simp only [List.mem_cons,List.not_mem_nil,or_false] at hx
  rcases hx with rfl | rfl | rfl<;>assumption)
 unfold abn at hl
 rw [List.length_append] at hl
 simp only [Bool.not_true,cond_false,if_true]
 rw [qx _ _ (by simp only [List.length_cons,List.length_nil];omega),Option.bind_some,hp,SS _ _ (by rw [List.length_append];omega) (by simp),Option.bind_some]
 unfold abn
 rw [List.append_assoc]
def su (a:aB):Bool:=decide (0≤a.Why)&&decide (a.Why≤11)&&decide (a.Value.length≤16)
theorem B_ (a:aB):ku a=some (su a):=by
 unfold ku su
 by_cases h1:0≤a.Why
 case neg=>rw [aT (show ¬ a.Why≥0 by omega)];rfl
 rw [bf (show a.Why≥0 by omega),cond_true,Bool.true_and]
 by_cases h2:a.Why≤11
 case neg=>rw [aT h2];rfl
 rw [bf h2,cond_true,Bool.true_and]
 congr 1
 rw [decide_eq_decide]
 omega
def YW (a:aB):List UInt8:=eN a.Why++eT a.Value
theorem Mi {a:aB} (h:su a=true):vG a.Why∧a.Value.length≤16:=by
 unfold su at h
 simp only [Bool.and_eq_true,decide_eq_true_eq] at h
 unfold vG
 omega
theorem Vi {a:aB} (h:su a=true):(YW a).length≤40:=by
 obtain ⟨h1,h2⟩:=Mi h
 have a1:=kR _ h1
 have b1:=W_ a.Value (by unfold okS;omega)
 unfold YW
 rw [List.length_append]
 omega
theorem Vj (b:List UInt8) (a:aB) (hb:b.length < 800000000):qp b a=some (if su a then b++YW a else []):=by
 unfold qp
 rw [B_,Option.bind_some]
 cases h:su a
 ·rfl
 obtain ⟨h1,h2⟩:=Mi h
 have hl:=Vi h
 have hp:=jE b (l:=[a.Why]) (λx hx=>by
  rw [List.mem_singleton.1 hx]
  exact h1)
 unfold YW at hl
 rw [List.length_append] at hl
 simp only [Bool.not_true,cond_false,if_true]
 rw [qx _ _ (by simp only [List.length_cons,List.length_nil];omega),Option.bind_some,hp,SS _ _ (by simp only [List.flatMap_cons,List.flatMap_nil,List.append_nil,List.length_append];omega) (by simp),Option.bind_some]
 unfold YW
 simp
def abp (x:aC):Bool:=decide (x.dR=0)&&decide (x.Epoch=0)&&decide (x.Pairs.length=0)&&decide (x.dN.length=0)
theorem abq (x:aC):GH x=some (abp x):=by
 unfold GH abp
 simp only [aeA]
 by_cases h1:x.dR=0
 case neg=>rw [aT h1];rfl
 rw [bf h1,cond_true,Bool.true_and]
 by_cases h2:x.Epoch=0
 case neg=>rw [aT h2];rfl
 rw [bf h2,cond_true,Bool.true_and]
 by_cases h3:x.Pairs.length=0
 case neg=>rw [aT h3,aT (show ¬ ((x.Pairs.length:Int)=0) by omega)];rfl
 rw [bf h3,bf (show ((x.Pairs.length:Int)=0) by omega),cond_true,Bool.true_and]
 congr 1
 rw [decide_eq_decide]
 omega
def kH (x:aC):Bool:=abp x || decide (CZ x)
theorem C8 (x:aC) (h1:x.Pairs.length < 1000000) (h2:x.dN.length < 1000000):lC x=some (kH x):=by
 unfold lC kH
 rw [abq,Option.bind_some]
 cases abp x
 ·rw [cond_false,ahR x h1 h2];rfl
 ·rfl
theorem aur (l:List av):OkP (ofP [] l):=aqs l [] λp hp=>by simp at hp
theorem FJ {x:aC} (h:kH x=true):vG x.dR∧vG x.Epoch∧x.Pairs.length≤8∧x.dN.length≤4∧(∀ p∈x.Pairs,p.Key.length≤8∧p.Value.length≤16)∧∀ s∈x.dN,vG s.Client∧vG s.Seq∧su s.Answer=true:=by
 unfold kH at h
 rcases Bool.or_eq_true_iff.1 h with h | h
 ·unfold abp at h
  simp only [Bool.and_eq_true,decide_eq_true_eq] at h
  obtain ⟨⟨⟨a,b⟩,c⟩,d⟩:=h
  have c:=List.eq_nil_of_length_eq_zero c
  have d:=List.eq_nil_of_length_eq_zero d
  rw [a,b,c,d]
  refine ⟨by simp [vG],by simp [vG],by simp,by simp,by simp,by simp⟩
 ·obtain ⟨h1,h2,h3,h4,h5,h6,h7⟩:=of_decide_eq_true h
  have hT:=(abh x.Pairs [] ok0).2
  have hP:=aur x.Pairs
  have hS:=Md (ofS x.dN)
  have hG:=aqu x.dN
  rw [h5] at hT hP
  rw [h6] at hS
  refine ⟨by unfold vG;omega,by unfold vG;omega,hT,hS,λp hp=>?_,λs hs=>?_⟩
  ·have:=hP p hp
   unfold ajX at this
   simp only [Bool.or_eq_false_iff,decide_eq_false_iff_not] at this
   omega
  ·have ha:YV s=true:=by
    rw [List.any_eq_false] at h7
    have:=h7 s hs
    simpa using this
   have hm:s∈iP (ofS x.dN):=by rw [h6];exact hs
   have hc:0 < s.Seq∧0≤s.Client∧s.Client < 4:=by
    unfold iP at hm
    rw [List.mem_filter] at hm
    obtain ⟨m,p⟩:=hm
    have p:=of_decide_eq_true p
    obtain ⟨g0,g1,g2,g3⟩:=hG
    simp only [A4.RX,List.mem_cons,List.not_mem_nil,or_false] at m
    rcases m with rfl | rfl | rfl | rfl
    ·rcases g0 with k | ⟨_,k⟩<;>omega
    ·rcases g1 with k | ⟨_,k⟩<;>omega
    ·rcases g2 with k | ⟨_,k⟩<;>omega
    ·rcases g3 with k | ⟨_,k⟩<;>omega
   unfold YV at ha
   simp only [Bool.and_eq_true,Bool.or_eq_true,decide_eq_true_eq] at ha
   refine ⟨by unfold vG;omega,by unfold vG;omega, ?_⟩
   unfold su
   simp only [Bool.and_eq_true,decide_eq_true_eq]
   omega
def sw (p:av):List UInt8:=eT p.Key++eT p.Value
def uy (s:au):List UInt8:=[s.Client,s.Seq].flatMap eN++YW s.Answer
def aj0 (x:aC):List UInt8:=[x.dR,x.Epoch].flatMap eN++(eN (x.Pairs.length:Int)++(x.Pairs.flatMap sw++(eN (x.dN.length:Int)++x.dN.flatMap uy)))
theorem C9 {α:Type} (e:α→List UInt8) (m:Nat):∀ (l:List α),(∀ x∈l,(e x).length≤m)→(l.flatMap e).length≤m * l.length
 | [],_=>by simp
 | x::l,h=>by
  have h1:=C9 e m l λy hy=>h y (by simp [hy])
  have h2:=h x (by simp)
  rw [List.flatMap_cons,List.length_append,List.length_cons,Nat.mul_add]
  omega
theorem FT {α:Type} (e:α→List UInt8) (l:List α) (i:Nat):((l.take i).flatMap e).length≤(l.flatMap e).length:=by
 have:(l.flatMap e).length=((l.take i).flatMap e).length+((l.drop i).flatMap e).length:=by
  rw [← List.length_append,← List.flatMap_append,List.take_append_drop]
 omega
theorem Xc {p:av} (h:p.Key.length≤8∧p.Value.length≤16):(sw p).length≤60:=by
 have b1:=W_ p.Key (by unfold okS;omega)
 have b2:=W_ p.Value (by unfold okS;omega)
 unfold sw
 rw [List.length_append]
 omega
theorem Xd {s:au} (h:vG s.Client∧vG s.Seq∧su s.Answer=true):(uy s).length≤60:=by
 have a1:=kR _ h.1
 have a2:=kR _ h.2.1
 have b1:=Vi h.2.2
 unfold uy
 simp only [List.flatMap_cons,List.flatMap_nil,List.length_append,List.length_nil]
 omega
theorem Ta {x:aC} (h:kH x=true):(x.Pairs.flatMap sw).length≤480∧(x.dN.flatMap uy).length≤240∧(aj0 x).length≤800:=by
 obtain ⟨h1,h2,h3,h4,h5,h6⟩:=FJ h
 have a1:=kR _ h1
 have a2:=kR _ h2
 have a3:=kR (x.Pairs.length:Int) (by unfold vG;omega)
 have a4:=kR (x.dN.length:Int) (by unfold vG;omega)
 have b1:=C9 sw 60 x.Pairs λp hp=>Xc (h5 p hp)
 have b2:=C9 uy 60 x.dN λp hp=>Xd (h6 p hp)
 have m1:60 * x.Pairs.length≤480:=by omega
 have m2:60 * x.dN.length≤240:=by omega
 refine ⟨by omega,by omega, ?_⟩
 unfold aj0
 simp only [List.flatMap_cons,List.flatMap_nil,List.length_append,List.length_nil]
 omega
theorem abr (b:List UInt8) (x:aC) (hb:b.length < 700000000) (h1:x.Pairs.length < 1000000) (h2:x.dN.length < 1000000):wz b x=some (if kH x then b++aj0 x else []):=by
 unfold wz
 rw [C8 x h1 h2,Option.bind_some]
 cases h:kH x
 ·rfl
 obtain ⟨g1,g2,g3,g4,g5,g6⟩:=FJ h
 obtain ⟨c1,c2,c3⟩:=Ta h
 have a1:=kR _ g1
 have a2:=kR _ g2
 have a3:=kR (x.Pairs.length:Int) (by unfold vG;omega)
 have a4:=kR (x.dN.length:Int) (by unfold vG;omega)
 have hp:=jE b (l:=[x.dR,x.Epoch,(x.Pairs.length:Int)]) (λz hz=>by
  simp only [List.mem_cons,List.not_mem_nil,or_false] at hz
  rcases hz with rfl | rfl | rfl
  ·exact g1
  ·exact g2
  ·unfold vG;omega)
 simp only [Bool.not_true,cond_false,if_true]
 rw [qx _ _ (by simp only [List.length_cons,List.length_nil];omega),Option.bind_some,hp]
 generalize hB:b++[x.dR,x.Epoch,(x.Pairs.length:Int)].flatMap eN=B at *
 have hBl:B.length≤b.length+27:=by
  rw [← hB]
  simp only [List.flatMap_cons,List.flatMap_nil,List.length_append,List.length_nil]
  omega
 have l0:vo x (B,0)=some (B++x.Pairs.flatMap sw):=by
  have e0:(B,(0:Int))=(B++(x.Pairs.take 0).flatMap sw,((0:Nat):Int)):=by simp
  unfold vo
  rw [e0]
  refine ng (λi=>(B++(x.Pairs.take i).flatMap sw,(i:Int))) x.Pairs.length _ (λi hi=>?_) ?_ (by omega)
  ·have h5:(x.Pairs.take (i+1)).flatMap sw=(x.Pairs.take i).flatMap sw++sw x.Pairs[i]:=by
    rw [List.take_succ_eq_append_getElem hi,List.flatMap_append]
    simp
   have h6:=FT sw x.Pairs i
   have h7:=Xc (g5 _ (List.getElem_mem hi))
   unfold sw at h7
   rw [List.length_append] at h7
   unfold kI
   simp only
   rw [bf (by omega),cond_true,dP hi,Option.bind_some,SS _ _ (by simp only [List.length_append,List.flatMap_cons,List.flatMap_nil,List.length_nil];omega) (by simp),Option.bind_some,bM (by omega) (by omega),dA,h5]
   unfold sw
   simp
  ·unfold kI
   simp only
   rw [aT (by omega),cond_false,List.take_length]
 rw [l0,Option.bind_some]
 have hp2:=jE (B++x.Pairs.flatMap sw) (l:=[(x.dN.length:Int)]) (λz hz=>by
  rw [List.mem_singleton.1 hz]
  unfold vG
  omega)
 rw [qx _ _ (by simp only [List.length_append,List.length_cons,List.length_nil];omega),Option.bind_some,hp2]
 generalize hD:B++x.Pairs.flatMap sw++[(x.dN.length:Int)].flatMap eN=D at *
 have hDl:D.length≤b.length+600:=by
  rw [← hD]
  simp only [List.flatMap_cons,List.flatMap_nil,List.length_append,List.length_nil]
  omega
 have l1:vw x (D,0)=some (D++x.dN.flatMap uy):=by
  have e0:(D,(0:Int))=(D++(x.dN.take 0).flatMap uy,((0:Nat):Int)):=by simp
  unfold vw
  rw [e0]
  refine ng (λi=>(D++(x.dN.take i).flatMap uy,(i:Int))) x.dN.length _ (λi hi=>?_) ?_ (by omega)
  ·have h5:(x.dN.take (i+1)).flatMap uy=(x.dN.take i).flatMap uy++uy x.dN[i]:=by
    rw [List.take_succ_eq_append_getElem hi,List.flatMap_append]
    simp
   have h6:=FT uy x.dN i
   obtain ⟨q1,q2,q3⟩:=g6 _ (List.getElem_mem hi)
   have h7:=Xd ⟨q1,q2,q3⟩
   unfold uy at h7
   rw [List.length_append] at h7
   have hp3:=jE (D++(x.dN.take i).flatMap uy) (l:=[x.dN[i].Client,x.dN[i].Seq]) (λz hz=>by
    simp only [List.mem_cons,List.not_mem_nil,or_false] at hz
    rcases hz with rfl | rfl<;>assumption)
   unfold kJ
   simp only
   rw [bf (by omega),cond_true,dP hi,Option.bind_some,qx _ _ (by simp only [List.length_append,List.length_cons,List.length_nil];omega),Option.bind_some,hp3,Vj _ _ (by simp only [List.length_append];omega),q3,Option.bind_some,bM (by omega) (by omega),dA,h5]
   unfold uy
   simp
  ·unfold kJ
   simp only
   rw [aT (by omega),cond_false,List.take_length]
 rw [l1,Option.bind_some,← hD,← hB]
 unfold aj0
 simp
end Go.Proofs.YtohoggieaanllaaGreat
