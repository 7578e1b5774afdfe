import Derived.Test.YtohoggieaanllaaGreatKp
import Derived.Test.YtohoggieaanllaaGreatY6
set_option linter.all false
set_option linter.unusedSimpArgs false
namespace Go.Proofs.YtohoggieaanllaaGreat
def Ra (m:aF):List Int:=[m.Kind,m.From,m.To,m.eY,m.Epoch,m.Weight,m.Load,m.qm]
def Yz (x:av):Prop:=uz x.Inc∧0≤x.Status∧x.Status≤2∧uz x.ql∧uz x.Load
instance (x:av):Decidable (Yz x):=by unfold Yz;infer_instance
def MC (m:aF):Prop:=1≤m.Kind∧m.Kind≤10∧(∀ n∈Ra m,uz n)∧m.Path.length≤5∧m.Table.length≤5∧(∀ n∈m.Path,uz n)∧(∀ x∈m.Table,Yz x)∧vK m.IK=true∧sF m.Answer=true∧qV m.xg=true
instance (m:aF):Decidable (MC m):=by unfold MC;infer_instance
def nN (m:aF):Bool:=decide (MC m)
def LB (m:aF):Prop:=m.Path.length < 1000000∧m.Table.length < 1000000∧small m.xg
theorem EZ (n:Int):uT n=some (decide (uz n)):=by
 unfold uT
 by_cases c:n≥0
 ·rw [aZ c,cond_true]
  congr 1
  rw [decide_eq_decide]
  unfold uz
  omega
 ·rw [aV c,aV (show ¬ uz n by unfold uz;omega)];rfl
theorem ahp (x:av):Kg x=some (!decide (Yz x)):=by
 unfold Kg
 rw [EZ,EZ,EZ]
 simp only [Option.bind_some]
 by_cases a:uz x.Inc
 case neg=>rw [aV a,aV (show ¬ Yz x from λh=>a h.1)];rfl
 by_cases b:x.Status < 0
 case pos=>rw [aZ a,aZ b,aV (show ¬ Yz x from λh=>by have:=h.2.1;omega)];rfl
 by_cases c:x.Status > 2
 case pos=>rw [aZ a,aV b,aZ c,aV (show ¬ Yz x from λh=>by have:=h.2.2.1;omega)];rfl
 by_cases d:uz x.ql
 case neg=>rw [aZ a,aV b,aV c,aV d,aV (show ¬ Yz x from λh=>d h.2.2.2.1)];rfl
 by_cases e:uz x.Load
 case neg=>rw [aZ a,aV b,aV c,aZ d,aV e,aV (show ¬ Yz x from λh=>e h.2.2.2.2)];rfl
 rw [aZ a,aV b,aV c,aZ d,aZ e,aZ (show Yz x from ⟨a,by omega,by omega,d,e⟩)];rfl
theorem Xl (l:List Int) (h:l.length < 1000000):gu l=some (l.any λn=>!decide (uz n)):=by
 obtain ⟨e,e1,e2⟩:=Ls l (λn=>!decide (uz n)) h (eZ l) (λi=>(i:Int)) (λi hi=>by
  unfold eZ Ie
  rw [aZ (by omega),cond_true,dI hi,Option.bind_some,EZ,Option.bind_some,Option.bind_some,bU (by omega) (by omega),cO]) (by
  unfold eZ
  rw [aV (by omega),cond_false])
 unfold gu kW mE
 rw [e1,Option.bind_some]
 rcases e2 with ⟨q,i,rfl⟩ | ⟨q,rfl⟩
 ·rw [q]
  simp only [jI,CV,cond_true,Option.bind_some]
  rw [aZ (by omega)]
 ·rw [q];rfl
theorem aeW (l:List av) (h:l.length < 1000000):eF l=some (l.any λn=>!decide (Yz n)):=by
 obtain ⟨e,e1,e2⟩:=Ls l (λn=>!decide (Yz n)) h (cZ l) (λi=>(i:Int)) (λi hi=>by
  unfold cZ
  rw [aZ (by omega),cond_true,dI hi,Option.bind_some,ahp,Option.bind_some,bU (by omega) (by omega),cO]) (by
  unfold cZ
  rw [aV (by omega),cond_false])
 unfold eF gG h_
 rw [e1,Option.bind_some]
 rcases e2 with ⟨q,i,rfl⟩ | ⟨q,rfl⟩
 ·rw [q]
  simp only [jI,CV,cond_true,Option.bind_some]
  rw [aZ (by omega)]
 ·rw [q];rfl
theorem aeX {α:Type} (P:α→Prop) [DecidablePred P] (l:List α):(l.any λn=>!decide (P n)) = !decide (∀ n∈l,P n):=by
 rw [Bool.eq_iff_iff]
 simp
theorem Wj (m:aF) (h:LB m):zK m=some (nN m):=by
 unfold zK EM EL EK Di nN
 have o1:=Xl (Ra m) (by simp [Ra])
 unfold Ra at o1
 rw [aeX] at o1
 have o2:=Xl m.Path h.1
 have o3:=aeW m.Table h.2.1
 rw [aeX] at o2 o3
 simp only [Option.bind_some,o1,o2,o3,Gx,Bg,Ck m.xg h.2.2.1 h.2.2.2]
 by_cases k1:m.Kind < 1
 ·rw [aZ k1,aV (show ¬ MC m by rintro ⟨p,_⟩;omega)];rfl
 by_cases k2:m.Kind > 10
 ·rw [aV k1,aZ k2,aV (show ¬ MC m by rintro ⟨_,p,_⟩;omega)];rfl
 rw [aV k1,aV k2]
 simp only [cond_false,Option.bind_some]
 by_cases k3:∀ n∈[m.Kind,m.From,m.To,m.eY,m.Epoch,m.Weight,m.Load,m.qm],uz n
 case neg=>rw [aV k3,aV (show ¬ MC m from λp=>k3 p.2.2.1)];rfl
 rw [aZ k3]
 by_cases k4:(m.Path.length:Int) > 5
 ·rw [aZ k4,aV (show ¬ MC m by rintro ⟨_,_,_,p,_⟩;omega)];rfl
 by_cases k5:(m.Table.length:Int) > 5
 ·rw [aV k4,aZ k5,aV (show ¬ MC m by rintro ⟨_,_,_,_,p,_⟩;omega)];rfl
 rw [aV k4,aV k5]
 by_cases k6:∀ n∈m.Path,uz n
 case neg=>rw [aV k6,aV (show ¬ MC m from λp=>k6 p.2.2.2.2.2.1)];rfl
 by_cases k7:∀ n∈m.Table,Yz n
 case neg=>rw [aZ k6,aV k7,aV (show ¬ MC m from λp=>k7 p.2.2.2.2.2.2.1)];rfl
 rw [aZ k6,aZ k7]
 simp only [Bool.not_true,cond_false,Option.bind_some,jI]
 cases k8:vK m.IK
 case false=>rw [aV (show ¬ MC m from λp=>by have:=p.2.2.2.2.2.2.2.1;rw [k8] at this;cases this)];rfl
 cases k9:sF m.Answer
 case false=>rw [aV (show ¬ MC m from λp=>by have:=p.2.2.2.2.2.2.2.2.1;rw [k9] at this;cases this)];rfl
 cases k0:qV m.xg
 case false=>rw [aV (show ¬ MC m from λp=>by have:=p.2.2.2.2.2.2.2.2.2;rw [k0] at this;cases this)];rfl
 rw [aZ (show MC m from ⟨by omega,by omega,k3,by omega,by omega,k6,k7,k8,k9,k0⟩)]
 rfl
def aaT (b:Bool):Int:=if b then 1 else 0
def Pp (x:av):List UInt8:=[x.Inc,x.Status,x.ql,x.Load,aaT x.dR].flatMap eN
def DK (m:aF):List UInt8:=(Ra m).flatMap eN++(eN (aaT m.dR)++(ahf m.IK++(aeT m.Answer++(eN (m.Path.length:Int)++(m.Path.flatMap eN++(eN (m.Table.length:Int)++(m.Table.flatMap Pp++alW m.xg)))))))
def ajy:Pr Bool:=fP (Ei 1) λn b=>.inr (n==1,b)
def LC:Pr av:=fP (gP jZ 4) λn=>fP ajy λd b=>.inr (⟨n.getD 0 0,n.getD 1 0,n.getD 2 0,n.getD 3 0,d⟩,b)
def mkM (n:List Int) (d:Bool) (q:bn) (a:aD) (p:List Int) (t:List av) (x:aA):aF:=⟨n.getD 0 0,n.getD 1 0,n.getD 2 0,n.getD 3 0,n.getD 4 0,n.getD 5 0,n.getD 6 0,n.getD 7 0,d,q,a,p,t,x⟩
def abY:Pr aF:=fP (gP jZ 8) λn=>fP ajy λd=>fP abV λq=>fP Yd λa=>fP (Ei 5) λc=>fP (gP jZ c.toNat) λp=>fP (Ei 5) λk=>fP (gP LC k.toNat) λt=>fP abX λx b=>.inr (mkM n d q a p t x,b)
theorem ahq (b:Bool):Lays ajy b (eN (aaT b)):=by
 have h:=Po (m:=1) (n:=if b then 1 else 0) (by cases b<;>decide) (by cases b<;>decide)
 have e:(((if b then 1 else 0:Nat)):Int)=aaT b:=by cases b<;>rfl
 rw [e] at h
 exact h.last λr=>by cases b<;>rfl
theorem aqy {x:av} (h:Yz x):Lays LC x (Pp x):=by
 obtain ⟨h1,h2,h3,h4,h5⟩:=h
 have a:=Lays.rep (p:=jZ) (enc:=eN) [x.Inc,x.Status,x.ql,x.Load] (λy hy=>Q8.lays (by
  simp only [List.mem_cons,List.not_mem_nil,or_false] at hy
  rcases hy with rfl | rfl | rfl | rfl
  ·exact h1
  ·unfold uz;omega
  ·exact h4
  ·exact h5))
 have e:Pp x=[x.Inc,x.Status,x.ql,x.Load].flatMap eN++eN (aaT x.dR):=by
  unfold Pp
  simp
 rw [e]
 exact a.seq ((ahq x.dR).last λr=>rfl)
theorem E5 {m:aF} (h:nN m=true):MC m:=of_decide_eq_true h
theorem aqz {m:aF} (h:nN m=true):Lays abY m (DK m):=by
 obtain ⟨_,_,h3,h4,h5,h6,h7,h8,h9,h0⟩:=E5 h
 have a:=Lays.rep (p:=jZ) (enc:=eN) (Ra m) (λx hx=>Q8.lays (h3 x hx))
 have b:=Lays.rep (p:=jZ) (enc:=eN) m.Path (λx hx=>Q8.lays (h6 x hx))
 have c:=Lays.rep (p:=LC) (enc:=Pp) m.Table (λx hx=>aqy (h7 x hx))
 exact a.seq ((ahq m.dR).seq ((aqs h8).seq ((ahj h9).seq ((Po (m:=5) (n:=m.Path.length) (by omega) (by omega)).seq (b.seq ((Po (m:=5) (n:=m.Table.length) (by omega) (by omega)).seq (c.seq ((aqv h0).last λ_=>rfl))))))))
theorem YA (b:Bool):uz (aaT b):=by cases b<;>decide
theorem aqA {x:av} (h:Yz x):(Pp x).length≤45:=by
 obtain ⟨h1,h2,h3,h4,h5⟩:=h
 have a1:=mH _ h1
 have a2:=mH x.Status (by unfold uz;omega)
 have a3:=mH _ h4
 have a4:=mH _ h5
 have a5:=mH _ (YA x.dR)
 unfold Pp
 simp only [List.flatMap_cons,List.flatMap_nil,List.length_append,List.length_nil]
 omega
theorem ahr {m:aF} (h:nN m=true):(DK m).length≤2000:=by
 obtain ⟨_,_,h3,h4,h5,h6,h7,h8,h9,h0⟩:=E5 h
 have a:=Cm eN 9 (Ra m) λx hx=>mH x (h3 x hx)
 have b:=Cm eN 9 m.Path λx hx=>mH x (h6 x hx)
 have c:=Cm Pp 45 m.Table λx hx=>aqA (h7 x hx)
 have d:=ahg h8
 have e:=aaJ h9
 have f:=(aaM h0).2.2
 have g1:=mH _ (YA m.dR)
 have g2:=mH (m.Path.length:Int) (by unfold uz;omega)
 have g3:=mH (m.Table.length:Int) (by unfold uz;omega)
 have hd:(Ra m).length=8:=rfl
 rw [hd] at a
 unfold DK
 simp only [List.length_append]
 omega
theorem adt (b:Bool):Uj b=some (aaT b):=by
 cases b<;>rfl
theorem auC (m:aF) (h:LB m):PO m=some (if nN m then DK m else []):=by
 unfold PO
 rw [Wj m h,Option.bind_some]
 cases hr:nN m
 ·rfl
 obtain ⟨_,_,h3,h4,h5,h6,h7,h8,h9,h0⟩:=E5 hr
 have hl:=ahr hr
 unfold DK at hl ⊢
 simp only [List.length_append] at hl
 simp only [Bool.not_true,cond_false,if_true]
 unfold Di
 rw [Option.bind_some,oI _ _ (by simp),Option.bind_some,vH [] (l:=[m.Kind,m.From,m.To,m.eY,m.Epoch,m.Weight,m.Load,m.qm]) h3,adt,Option.bind_some,List.nil_append]
 show (mg ((Ra m).flatMap eN) [aaT m.dR]).bind _=_
 rw [oI _ _ (by simp only [List.length_cons,List.length_nil];omega),Option.bind_some,vH _ (l:=[aaT m.dR]) (λx hx=>by rw [List.mem_singleton.1 hx];exact YA _)]
 simp only [List.flatMap_cons,List.flatMap_nil,List.append_nil]
 rw [aeS _ _ (by simp only [List.length_append];omega),h8,if_pos rfl,Option.bind_some,UF _ _ (by simp only [List.length_append];omega),h9,if_pos rfl,Option.bind_some]
 rw [oI _ _ (by simp only [List.length_append,List.length_cons,List.length_nil];omega),Option.bind_some,vH _ (l:=[(m.Path.length:Int)]) (λx hx=>by rw [List.mem_singleton.1 hx];unfold uz;omega)]
 simp only [List.flatMap_cons,List.flatMap_nil,List.append_nil]
 rw [oI _ _ (by simp only [List.length_append];omega),Option.bind_some,vH _ (l:=m.Path) h6]
 rw [oI _ _ (by simp only [List.length_append,List.length_cons,List.length_nil];omega),Option.bind_some,vH _ (l:=[(m.Table.length:Int)]) (λx hx=>by rw [List.mem_singleton.1 hx];unfold uz;omega)]
 simp only [List.flatMap_cons,List.flatMap_nil,List.append_nil]
 generalize hB:(Ra m).flatMap eN++eN (aaT m.dR)++ahf m.IK++aeT m.Answer++eN (m.Path.length:Int)++m.Path.flatMap eN++eN (m.Table.length:Int)=B
 have hBl:B.length≤2000:=by
  rw [← hB]
  simp only [List.length_append]
  omega
 have l0:K_ m (B,0)=some (B++m.Table.flatMap Pp):=by
  have e0:(B,(0:Int))=(B++(m.Table.take 0).flatMap Pp,((0:Nat):Int)):=by simp
  unfold K_
  rw [e0]
  refine qK (λi=>(B++(m.Table.take i).flatMap Pp,(i:Int))) m.Table.length _ (λi hi=>?_) ?_ (by omega)
  ·have q5:(m.Table.take (i+1)).flatMap Pp=(m.Table.take i).flatMap Pp++Pp m.Table[i]:=by
    rw [List.take_succ_eq_append_getElem hi,List.flatMap_append]
    simp
   have q6:=Wh Pp m.Table i
   obtain ⟨q1,q2,q3,q4,q7⟩:=h7 _ (List.getElem_mem hi)
   have hp:=vH (B++(m.Table.take i).flatMap Pp) (l:=[m.Table[i].Inc,m.Table[i].Status,m.Table[i].ql,m.Table[i].Load,aaT m.Table[i].dR]) (λz hz=>by
    simp only [List.mem_cons,List.not_mem_nil,or_false] at hz
    rcases hz with rfl | rfl | rfl | rfl | rfl
    ·exact q1
    ·unfold uz;omega
    ·exact q4
    ·exact q7
    ·exact YA _)
   unfold wM
   simp only
   rw [aZ (by omega),cond_true,dI hi,Option.bind_some,adt,Option.bind_some,oI _ _ (by simp only [List.length_append,List.length_cons,List.length_nil];omega),Option.bind_some,hp,bU (by omega) (by omega),cO,q5]
   unfold Pp
   rw [List.append_assoc]
  ·unfold wM
   simp only
   rw [aV (by omega),cond_false,List.take_length]
 rw [l0,Option.bind_some,aaN _ _ (by rw [List.length_append];omega) h.2.2.1 h.2.2.2,h0,if_pos rfl,Option.bind_some,← hB]
 simp only [List.append_assoc]
end Go.Proofs.YtohoggieaanllaaGreat
