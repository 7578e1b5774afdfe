import Derived.Test.YtohoggieaanllaaGreatKp
import Derived.Test.YtohoggieaanllaaGreatY7
set_option linter.all false
set_option linter.unusedSimpArgs false
namespace Go.Proofs.YtohoggieaanllaaGreat
def Jc (m:aM):List Int:=[m.Kind,m.From,m.To,m.dR,m.Epoch,m.Weight,m.Load,m.kT]
def okE (x:aA):Prop:=vG x.Inc∧0≤x.Status∧x.Status≤2∧vG x.qZ∧vG x.Load
instance (x:aA):Decidable (okE x):=by unfold okE;infer_instance
def MC (m:aM):Prop:=1≤m.Kind∧m.Kind≤10∧(∀ n∈Jc m,vG n)∧m.Path.length≤5∧m.Table.length≤5∧(∀ n∈m.Path,vG n)∧(∀ x∈m.Table,okE x)∧nK m.Fa=true∧su m.Answer=true∧kH m.mZ=true
instance (m:aM):Decidable (MC m):=by unfold MC;infer_instance
def sD (m:aM):Bool:=decide (MC m)
def EM (m:aM):Prop:=m.Path.length < 1000000∧m.Table.length < 1000000∧small m.mZ
theorem FK (n:Int):vV n=some (decide (vG n)):=by
 unfold vV
 by_cases c:n≥0
 ·rw [bf c,cond_true]
  congr 1
  rw [decide_eq_decide]
  unfold vG
  omega
 ·rw [aT c,aT (show ¬ vG n by unfold vG;omega)];rfl
theorem ahW (x:aA):KO x=some (!decide (okE x)):=by
 unfold KO
 rw [FK,FK,FK]
 simp only [Option.bind_some]
 by_cases a:vG x.Inc
 case neg=>rw [aT a,aT (show ¬ okE x from λh=>a h.1)];rfl
 by_cases b:x.Status < 0
 case pos=>rw [bf a,bf b,aT (show ¬ okE x from λh=>by have:=h.2.1;omega)];rfl
 by_cases c:x.Status > 2
 case pos=>rw [bf a,aT b,bf c,aT (show ¬ okE x from λh=>by have:=h.2.2.1;omega)];rfl
 by_cases d:vG x.qZ
 case neg=>rw [bf a,aT b,aT c,aT d,aT (show ¬ okE x from λh=>d h.2.2.2.1)];rfl
 by_cases e:vG x.Load
 case neg=>rw [bf a,aT b,aT c,bf d,aT e,aT (show ¬ okE x from λh=>e h.2.2.2.2)];rfl
 rw [bf a,aT b,aT c,bf d,bf e,bf (show okE x from ⟨a,by omega,by omega,d,e⟩)];rfl
theorem XY (l:List Int) (h:l.length < 1000000):gT l=some (l.any λn=>!decide (vG n)):=by
 obtain ⟨e,e1,e2⟩:=Mg l (λn=>!decide (vG n)) h (fD l) (λi=>(i:Int)) (λi hi=>by
  unfold fD IZ
  rw [bf (by omega),cond_true,dP hi,Option.bind_some,FK,Option.bind_some,Option.bind_some,bM (by omega) (by omega),dA]) (by
  unfold fD
  rw [aT (by omega),cond_false])
 unfold gT lU nH
 rw [e1,Option.bind_some]
 rcases e2 with ⟨q,i,rfl⟩ | ⟨q,rfl⟩
 ·rw [q]
  simp only [jO,zA,cond_true,Option.bind_some]
  rw [bf (by omega)]
 ·rw [q];rfl
theorem afv (l:List aA) (h:l.length < 1000000):eZ l=some (l.any λn=>!decide (okE n)):=by
 obtain ⟨e,e1,e2⟩:=Mg l (λn=>!decide (okE n)) h (dB l) (λi=>(i:Int)) (λi hi=>by
  unfold dB
  rw [bf (by omega),cond_true,dP hi,Option.bind_some,ahW,Option.bind_some,bM (by omega) (by omega),dA]) (by
  unfold dB
  rw [aT (by omega),cond_false])
 unfold eZ gY iK
 rw [e1,Option.bind_some]
 rcases e2 with ⟨q,i,rfl⟩ | ⟨q,rfl⟩
 ·rw [q]
  simp only [jO,zA,cond_true,Option.bind_some]
  rw [bf (by omega)]
 ·rw [q];rfl
theorem afw {α:Type} (P:α→Prop) [DecidablePred P] (l:List α):(l.any λn=>!decide (P n)) = !decide (∀ n∈l,P n):=by
 rw [Bool.eq_iff_iff]
 simp
theorem Xf (m:aM) (h:EM m):xD m=some (sD m):=by
 unfold xD Fx Fw Fv Bh sD
 have o1:=XY (Jc m) (by simp [Jc])
 unfold Jc at o1
 rw [afw] at o1
 have o2:=XY m.Path h.1
 have o3:=afv m.Table h.2.1
 rw [afw] at o2 o3
 simp only [Option.bind_some,o1,o2,o3,Ho,B_,C8 m.mZ h.2.2.1 h.2.2.2]
 by_cases k1:m.Kind < 1
 ·rw [bf k1,aT (show ¬ MC m by rintro ⟨p,_⟩;omega)];rfl
 by_cases k2:m.Kind > 10
 ·rw [aT k1,bf k2,aT (show ¬ MC m by rintro ⟨_,p,_⟩;omega)];rfl
 rw [aT k1,aT k2]
 simp only [cond_false,Option.bind_some]
 by_cases k3:∀ n∈[m.Kind,m.From,m.To,m.dR,m.Epoch,m.Weight,m.Load,m.kT],vG n
 case neg=>rw [aT k3,aT (show ¬ MC m from λp=>k3 p.2.2.1)];rfl
 rw [bf k3]
 by_cases k4:(m.Path.length:Int) > 5
 ·rw [bf k4,aT (show ¬ MC m by rintro ⟨_,_,_,p,_⟩;omega)];rfl
 by_cases k5:(m.Table.length:Int) > 5
 ·rw [aT k4,bf k5,aT (show ¬ MC m by rintro ⟨_,_,_,_,p,_⟩;omega)];rfl
 rw [aT k4,aT k5]
 by_cases k6:∀ n∈m.Path,vG n
 case neg=>rw [aT k6,aT (show ¬ MC m from λp=>k6 p.2.2.2.2.2.1)];rfl
 by_cases k7:∀ n∈m.Table,okE n
 case neg=>rw [bf k6,aT k7,aT (show ¬ MC m from λp=>k7 p.2.2.2.2.2.2.1)];rfl
 rw [bf k6,bf k7]
 simp only [Bool.not_true,cond_false,Option.bind_some,jO]
 cases k8:nK m.Fa
 case false=>rw [aT (show ¬ MC m from λp=>by have:=p.2.2.2.2.2.2.2.1;rw [k8] at this;cases this)];rfl
 cases k9:su m.Answer
 case false=>rw [aT (show ¬ MC m from λp=>by have:=p.2.2.2.2.2.2.2.2.1;rw [k9] at this;cases this)];rfl
 cases k0:kH m.mZ
 case false=>rw [aT (show ¬ MC m from λp=>by have:=p.2.2.2.2.2.2.2.2.2;rw [k0] at this;cases this)];rfl
 rw [bf (show MC m from ⟨by omega,by omega,k3,by omega,by omega,k6,k7,k8,k9,k0⟩)]
 rfl
def Te (b:Bool):Int:=if b then 1 else 0
def Ii (x:aA):List UInt8:=[x.Inc,x.Status,x.qZ,x.Load,Te x.dL].flatMap eN
def abx (m:aM):List UInt8:=(Jc m).flatMap eN++(eN (Te m.dL)++(abn m.Fa++(YW m.Answer++(eN (m.Path.length:Int)++(m.Path.flatMap eN++(eN (m.Table.length:Int)++(m.Table.flatMap Ii++aj0 m.mZ)))))))
def aj3:Pr Bool:=bH (qh 1) λn b=>.inr (n==1,b)
def C_:Pr aA:=bH (eH fO 4) λn=>bH aj3 λd b=>.inr (⟨n.getD 0 0,n.getD 1 0,n.getD 2 0,n.getD 3 0,d⟩,b)
def mkM (n:List Int) (d:Bool) (q:aU) (a:aB) (p:List Int) (t:List aA) (x:aC):aM:=⟨n.getD 0 0,n.getD 1 0,n.getD 2 0,n.getD 3 0,n.getD 4 0,n.getD 5 0,n.getD 6 0,n.getD 7 0,d,q,a,p,t,x⟩
def Vo:Pr aM:=bH (eH fO 8) λn=>bH aj3 λd=>bH Vk λq=>bH PX λa=>bH (qh 5) λc=>bH (eH fO c.toNat) λp=>bH (qh 5) λk=>bH (eH C_ k.toNat) λt=>bH PY λx b=>.inr (mkM n d q a p t x,b)
theorem Mj {m:aM} (h:sD m=true):MC m:=of_decide_eq_true h
theorem Qo (b:Bool):vG (Te b):=by cases b<;>decide
theorem aqz {x:aA} (h:okE x):(Ii x).length≤45:=by
 obtain ⟨h1,h2,h3,h4,h5⟩:=h
 have a1:=kR _ h1
 have a2:=kR x.Status (by unfold vG;omega)
 have a3:=kR _ h4
 have a4:=kR _ h5
 have a5:=kR _ (Qo x.dL)
 unfold Ii
 simp only [List.flatMap_cons,List.flatMap_nil,List.length_append,List.length_nil]
 omega
theorem aby {m:aM} (h:sD m=true):(abx m).length≤2000:=by
 obtain ⟨_,_,h3,h4,h5,h6,h7,h8,h9,h0⟩:=Mj h
 have a:=C9 eN 9 (Jc m) λx hx=>kR x (h3 x hx)
 have b:=C9 eN 9 m.Path λx hx=>kR x (h6 x hx)
 have c:=C9 Ii 45 m.Table λx hx=>aqz (h7 x hx)
 have d:=abo h8
 have e:=Vi h9
 have f:=(Ta h0).2.2
 have g1:=kR _ (Qo m.dL)
 have g2:=kR (m.Path.length:Int) (by unfold vG;omega)
 have g3:=kR (m.Table.length:Int) (by unfold vG;omega)
 have hd:(Jc m).length=8:=rfl
 rw [hd] at a
 unfold abx
 simp only [List.length_append]
 omega
theorem ad2 (b:Bool):UQ b=some (Te b):=by
 cases b<;>rfl
theorem auv (m:aM) (h:EM m):LZ m=some (if sD m then abx m else []):=by
 unfold LZ
 rw [Xf m h,Option.bind_some]
 cases hr:sD m
 ·rfl
 obtain ⟨_,_,h3,h4,h5,h6,h7,h8,h9,h0⟩:=Mj hr
 have hl:=aby hr
 unfold abx at hl ⊢
 simp only [List.length_append] at hl
 simp only [Bool.not_true,cond_false,if_true]
 unfold Bh
 rw [Option.bind_some,qx _ _ (by simp),Option.bind_some,jE [] (l:=[m.Kind,m.From,m.To,m.dR,m.Epoch,m.Weight,m.Load,m.kT]) h3,ad2,Option.bind_some,List.nil_append]
 show (ny ((Jc m).flatMap eN) [Te m.dL]).bind _=_
 rw [qx _ _ (by simp only [List.length_cons,List.length_nil];omega),Option.bind_some,jE _ (l:=[Te m.dL]) (λx hx=>by rw [List.mem_singleton.1 hx];exact Qo _)]
 simp only [List.flatMap_cons,List.flatMap_nil,List.append_nil]
 rw [afs _ _ (by simp only [List.length_append];omega),h8,if_pos rfl,Option.bind_some,Vj _ _ (by simp only [List.length_append];omega),h9,if_pos rfl,Option.bind_some]
 rw [qx _ _ (by simp only [List.length_append,List.length_cons,List.length_nil];omega),Option.bind_some,jE _ (l:=[(m.Path.length:Int)]) (λx hx=>by rw [List.mem_singleton.1 hx];unfold vG;omega)]
 simp only [List.flatMap_cons,List.flatMap_nil,List.append_nil]
 rw [qx _ _ (by simp only [List.length_append];omega),Option.bind_some,jE _ (l:=m.Path) h6]
 rw [qx _ _ (by simp only [List.length_append,List.length_cons,List.length_nil];omega),Option.bind_some,jE _ (l:=[(m.Table.length:Int)]) (λx hx=>by rw [List.mem_singleton.1 hx];unfold vG;omega)]
 simp only [List.flatMap_cons,List.flatMap_nil,List.append_nil]
 generalize hB:(Jc m).flatMap eN++eN (Te m.dL)++abn m.Fa++YW m.Answer++eN (m.Path.length:Int)++m.Path.flatMap eN++eN (m.Table.length:Int)=B
 have hBl:B.length≤2000:=by
  rw [← hB]
  simp only [List.length_append]
  omega
 have l0:LY m (B,0)=some (B++m.Table.flatMap Ii):=by
  have e0:(B,(0:Int))=(B++(m.Table.take 0).flatMap Ii,((0:Nat):Int)):=by simp
  unfold LY
  rw [e0]
  refine ng (λi=>(B++(m.Table.take i).flatMap Ii,(i:Int))) m.Table.length _ (λi hi=>?_) ?_ (by omega)
  ·have q5:(m.Table.take (i+1)).flatMap Ii=(m.Table.take i).flatMap Ii++Ii m.Table[i]:=by
    rw [List.take_succ_eq_append_getElem hi,List.flatMap_append]
    simp
   have q6:=FT Ii m.Table i
   obtain ⟨q1,q2,q3,q4,q7⟩:=h7 _ (List.getElem_mem hi)
   have hp:=jE (B++(m.Table.take i).flatMap Ii) (l:=[m.Table[i].Inc,m.Table[i].Status,m.Table[i].qZ,m.Table[i].Load,Te m.Table[i].dL]) (λz hz=>by
    simp only [List.mem_cons,List.not_mem_nil,or_false] at hz
    rcases hz with rfl | rfl | rfl | rfl | rfl
    ·exact q1
    ·unfold vG;omega
    ·exact q4
    ·exact q7
    ·exact Qo _)
   unfold xH
   simp only
   rw [bf (by omega),cond_true,dP hi,Option.bind_some,ad2,Option.bind_some,qx _ _ (by simp only [List.length_append,List.length_cons,List.length_nil];omega),Option.bind_some,hp,bM (by omega) (by omega),dA,q5]
   unfold Ii
   rw [List.append_assoc]
  ·unfold xH
   simp only
   rw [aT (by omega),cond_false,List.take_length]
 rw [l0,Option.bind_some,abr _ _ (by rw [List.length_append];omega) h.2.2.1 h.2.2.2,h0,if_pos rfl,Option.bind_some,← hB]
 simp only [List.append_assoc]
end Go.Proofs.YtohoggieaanllaaGreat
