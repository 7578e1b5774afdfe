import Derived.Test.YtohoggieaanllaaGreatKp
import Derived.Test.YtohoggieaanllaaGreatY5
set_option linter.all false
set_option linter.unusedSimpArgs false
namespace Go.Proofs.YtohoggieaanllaaGreat
def zJ (m:aO):List Int:=[m.Kind,m.From,m.To,m.fB,m.Epoch,m.Weight,m.Load,m.m_]
def okE (x:av):Prop:=vO x.Inc∧0≤x.Status∧x.Status≤2∧vO x.nV∧vO x.Load
instance (x:av):Decidable (okE x):=by unfold okE;infer_instance
def MC (m:aO):Prop:=1≤m.Kind∧m.Kind≤10∧(∀ n∈zJ m,vO n)∧m.Path.length≤5∧m.Table.length≤5∧(∀ n∈m.Path,vO n)∧(∀ x∈m.Table,okE x)∧Aa m.Bl=true∧tQ m.Answer=true∧Ab m.nK=true
instance (m:aO):Decidable (MC m):=by unfold MC;infer_instance
def D9 (m:aO):Bool:=decide (MC m)
def O8 (m:aO):Prop:=m.Path.length < 1000000∧m.Table.length < 1000000∧small m.nK
theorem AB (n:Int):qR n=some (decide (vO n)):=by
 unfold qR
 by_cases c:n≥0
 ·rw [bI c,cond_true]
  congr 1
  rw [decide_eq_decide]
  unfold vO
  omega
 ·rw [aZ c,aZ (show ¬ vO n by unfold vO;omega)];rfl
theorem ZV (x:av):EP x=some (!decide (okE x)):=by
 unfold EP
 rw [AB,AB,AB]
 simp only [Option.bind_some]
 by_cases a:vO x.Inc
 case neg=>rw [aZ a,aZ (show ¬ okE x from λh=>a h.1)];rfl
 by_cases b:x.Status < 0
 case pos=>rw [bI a,bI b,aZ (show ¬ okE x from λh=>by have:=h.2.1;omega)];rfl
 by_cases c:x.Status > 2
 case pos=>rw [bI a,aZ b,bI c,aZ (show ¬ okE x from λh=>by have:=h.2.2.1;omega)];rfl
 by_cases d:vO x.nV
 case neg=>rw [bI a,aZ b,aZ c,aZ d,aZ (show ¬ okE x from λh=>d h.2.2.2.1)];rfl
 by_cases e:vO x.Load
 case neg=>rw [bI a,aZ b,aZ c,bI d,aZ e,aZ (show ¬ okE x from λh=>e h.2.2.2.2)];rfl
 rw [bI a,aZ b,aZ c,bI d,bI e,bI (show okE x from ⟨a,by omega,by omega,d,e⟩)];rfl
theorem P_ (l:List Int) (h:l.length < 1000000):fO l=some (l.any λn=>!decide (vO n)):=by
 obtain ⟨e,e1,e2⟩:=Rh l (λn=>!decide (vO n)) h (dX l) (λi=>(i:Int)) (λi hi=>by
  unfold dX C_
  rw [bI (by omega),cond_true,fA hi,Option.bind_some,AB,Option.bind_some,Option.bind_some,fG (by omega) (by omega),fE]) (by
  unfold dX
  rw [aZ (by omega),cond_false])
 unfold fO jF kE
 rw [e1,Option.bind_some]
 rcases e2 with ⟨q,i,rfl⟩ | ⟨q,rfl⟩
 ·rw [q]
  simp only [mW,Bg,cond_true,Option.bind_some]
  rw [bI (by omega)]
 ·rw [q];rfl
theorem XM (l:List av) (h:l.length < 1000000):dP l=some (l.any λn=>!decide (okE n)):=by
 obtain ⟨e,e1,e2⟩:=Rh l (λn=>!decide (okE n)) h (bS l) (λi=>(i:Int)) (λi hi=>by
  unfold bS
  rw [bI (by omega),cond_true,fA hi,Option.bind_some,ZV,Option.bind_some,fG (by omega) (by omega),fE]) (by
  unfold bS
  rw [aZ (by omega),cond_false])
 unfold dP fT gP
 rw [e1,Option.bind_some]
 rcases e2 with ⟨q,i,rfl⟩ | ⟨q,rfl⟩
 ·rw [q]
  simp only [mW,Bg,cond_true,Option.bind_some]
  rw [bI (by omega)]
 ·rw [q];rfl
theorem acK {α:Type} (P:α→Prop) [DecidablePred P] (l:List α):(l.any λn=>!decide (P n)) = !decide (∀ n∈l,P n):=by
 rw [Bool.eq_iff_iff]
 simp
theorem O9 (m:aO) (h:O8 m):nN m=some (D9 m):=by
 unfold nN Aw Av Au wT D9
 have o1:=P_ (zJ m) (by simp [zJ])
 unfold zJ at o1
 rw [acK] at o1
 have o2:=P_ m.Path h.1
 have o3:=XM m.Table h.2.1
 rw [acK] at o2 o3
 simp only [Option.bind_some,o1,o2,o3,JB,JC,Fb m.nK h.2.2.1 h.2.2.2]
 by_cases k1:m.Kind < 1
 ·rw [bI k1,aZ (show ¬ MC m by rintro ⟨p,_⟩;omega)];rfl
 by_cases k2:m.Kind > 10
 ·rw [aZ k1,bI k2,aZ (show ¬ MC m by rintro ⟨_,p,_⟩;omega)];rfl
 rw [aZ k1,aZ k2]
 simp only [cond_false,Option.bind_some]
 by_cases k3:∀ n∈[m.Kind,m.From,m.To,m.fB,m.Epoch,m.Weight,m.Load,m.m_],vO n
 case neg=>rw [aZ k3,aZ (show ¬ MC m from λp=>k3 p.2.2.1)];rfl
 rw [bI k3]
 by_cases k4:(m.Path.length:Int) > 5
 ·rw [bI k4,aZ (show ¬ MC m by rintro ⟨_,_,_,p,_⟩;omega)];rfl
 by_cases k5:(m.Table.length:Int) > 5
 ·rw [aZ k4,bI k5,aZ (show ¬ MC m by rintro ⟨_,_,_,_,p,_⟩;omega)];rfl
 rw [aZ k4,aZ k5]
 by_cases k6:∀ n∈m.Path,vO n
 case neg=>rw [aZ k6,aZ (show ¬ MC m from λp=>k6 p.2.2.2.2.2.1)];rfl
 by_cases k7:∀ n∈m.Table,okE n
 case neg=>rw [bI k6,aZ k7,aZ (show ¬ MC m from λp=>k7 p.2.2.2.2.2.2.1)];rfl
 rw [bI k6,bI k7]
 simp only [Bool.not_true,cond_false,Option.bind_some,mW]
 cases k8:Aa m.Bl
 case false=>rw [aZ (show ¬ MC m from λp=>by have:=p.2.2.2.2.2.2.2.1;rw [k8] at this;cases this)];rfl
 cases k9:tQ m.Answer
 case false=>rw [aZ (show ¬ MC m from λp=>by have:=p.2.2.2.2.2.2.2.2.1;rw [k9] at this;cases this)];rfl
 cases k0:Ab m.nK
 case false=>rw [aZ (show ¬ MC m from λp=>by have:=p.2.2.2.2.2.2.2.2.2;rw [k0] at this;cases this)];rfl
 rw [bI (show MC m from ⟨by omega,by omega,k3,by omega,by omega,k6,k7,k8,k9,k0⟩)]
 rfl
def TY (b:Bool):Int:=if b then 1 else 0
def JE (x:av):List UInt8:=[x.Inc,x.Status,x.nV,x.Load,TY x.dw].flatMap eN
def abO (m:aO):List UInt8:=(zJ m).flatMap eN++(eN (TY m.dw)++(ZQ m.Bl++(XL m.Answer++(eN (m.Path.length:Int)++(m.Path.flatMap eN++(eN (m.Table.length:Int)++(m.Table.flatMap JE++adP m.nK)))))))
def al0:Pr Bool:=qE (adQ 1) λn b=>.inr (n==1,b)
def al1:Pr av:=qE (OZ Jy 4) λn=>qE al0 λd b=>.inr (⟨n.getD 0 0,n.getD 1 0,n.getD 2 0,n.getD 3 0,d⟩,b)
def mkM (n:List Int) (d:Bool) (q:aX) (a:aA) (p:List Int) (t:List av) (x:aD):aO:=⟨n.getD 0 0,n.getD 1 0,n.getD 2 0,n.getD 3 0,n.getD 4 0,n.getD 5 0,n.getD 6 0,n.getD 7 0,d,q,a,p,t,x⟩
def aoB:Pr aO:=qE (OZ Jy 8) λn=>qE al0 λd=>qE ani λq=>qE alZ λa=>qE (adQ 5) λc=>qE (OZ Jy c.toNat) λp=>qE (adQ 5) λk=>qE (OZ al1 k.toNat) λt=>qE ank λx b=>.inr (mkM n d q a p t x,b)
theorem ZW (b:Bool):Lays al0 b (eN (TY b)):=by
 have h:=JD (m:=1) (n:=if b then 1 else 0) (by cases b<;>decide) (by cases b<;>decide)
 have e:(((if b then 1 else 0:Nat)):Int)=TY b:=by cases b<;>rfl
 rw [e] at h
 exact h.last λr=>by cases b<;>rfl
theorem ahT {x:av} (h:okE x):Lays al1 x (JE x):=by
 obtain ⟨h1,h2,h3,h4,h5⟩:=h
 have a:=Lays.rep (p:=Jy) (enc:=eN) [x.Inc,x.Status,x.nV,x.Load] (λy hy=>KX.lays (by
  simp only [List.mem_cons,List.not_mem_nil,or_false] at hy
  rcases hy with rfl | rfl | rfl | rfl
  ·exact h1
  ·unfold vO;omega
  ·exact h4
  ·exact h5))
 have e:JE x=[x.Inc,x.Status,x.nV,x.Load].flatMap eN++eN (TY x.dw):=by
  unfold JE
  simp
 rw [e]
 exact a.seq ((ZW x.dw).last λr=>rfl)
theorem AJ {m:aO} (h:D9 m=true):MC m:=of_decide_eq_true h
theorem ZX {m:aO} (h:D9 m=true):Lays aoB m (abO m):=by
 obtain ⟨_,_,h3,h4,h5,h6,h7,h8,h9,h0⟩:=AJ h
 have a:=Lays.rep (p:=Jy) (enc:=eN) (zJ m) (λx hx=>KX.lays (h3 x hx))
 have b:=Lays.rep (p:=Jy) (enc:=eN) m.Path (λx hx=>KX.lays (h6 x hx))
 have c:=Lays.rep (p:=al1) (enc:=JE) m.Table (λx hx=>ahT (h7 x hx))
 exact a.seq ((ZW m.dw).seq ((ahO h8).seq ((ZU h9).seq ((JD (m:=5) (n:=m.Path.length) (by omega) (by omega)).seq (b.seq ((JD (m:=5) (n:=m.Table.length) (by omega) (by omega)).seq (c.seq ((ahR h0).last λ_=>rfl))))))))
theorem Ri (b:Bool):vO (TY b):=by cases b<;>decide
theorem ahU {x:av} (h:okE x):(JE x).length≤45:=by
 obtain ⟨h1,h2,h3,h4,h5⟩:=h
 have a1:=kH _ h1
 have a2:=kH x.Status (by unfold vO;omega)
 have a3:=kH _ h4
 have a4:=kH _ h5
 have a5:=kH _ (Ri x.dw)
 unfold JE
 simp only [List.flatMap_cons,List.flatMap_nil,List.length_append,List.length_nil]
 omega
theorem ahV {m:aO} (h:D9 m=true):(abO m).length≤2000:=by
 obtain ⟨_,_,h3,h4,h5,h6,h7,h8,h9,h0⟩:=AJ h
 have a:=yK eN 9 (zJ m) λx hx=>kH x (h3 x hx)
 have b:=yK eN 9 m.Path λx hx=>kH x (h6 x hx)
 have c:=yK JE 45 m.Table λx hx=>ahU (h7 x hx)
 have d:=ZR h8
 have e:=TU h9
 have f:=(TV h0).2.2
 have g1:=kH _ (Ri m.dw)
 have g2:=kH (m.Path.length:Int) (by unfold vO;omega)
 have g3:=kH (m.Table.length:Int) (by unfold vO;omega)
 have hd:(zJ m).length=8:=rfl
 rw [hd] at a
 unfold abO
 simp only [List.length_append]
 omega
theorem Wj (b:Bool):Np b=some (TY b):=by
 cases b<;>rfl
theorem acL (m:aO) (h:O8 m):Ay m=some (if D9 m then abO m else []):=by
 unfold Ay
 rw [O9 m h,Option.bind_some]
 cases hr:D9 m
 ·rfl
 obtain ⟨_,_,h3,h4,h5,h6,h7,h8,h9,h0⟩:=AJ hr
 have hl:=ahV hr
 unfold abO at hl ⊢
 simp only [List.length_append] at hl
 simp only [Bool.not_true,cond_false,if_true]
 unfold wT
 rw [Option.bind_some,l7 _ _ (by simp),Option.bind_some,rE [] (l:=[m.Kind,m.From,m.To,m.fB,m.Epoch,m.Weight,m.Load,m.m_]) h3,Wj,Option.bind_some,List.nil_append]
 show (kr ((zJ m).flatMap eN) [TY m.dw]).bind _=_
 rw [l7 _ _ (by simp only [List.length_cons,List.length_nil];omega),Option.bind_some,rE _ (l:=[TY m.dw]) (λx hx=>by rw [List.mem_singleton.1 hx];exact Ri _)]
 simp only [List.flatMap_cons,List.flatMap_nil,List.append_nil]
 rw [XK _ _ (by simp only [List.length_append];omega),h8,if_pos rfl,Option.bind_some,NG _ _ (by simp only [List.length_append];omega),h9,if_pos rfl,Option.bind_some]
 rw [l7 _ _ (by simp only [List.length_append,List.length_cons,List.length_nil];omega),Option.bind_some,rE _ (l:=[(m.Path.length:Int)]) (λx hx=>by rw [List.mem_singleton.1 hx];unfold vO;omega)]
 simp only [List.flatMap_cons,List.flatMap_nil,List.append_nil]
 rw [l7 _ _ (by simp only [List.length_append];omega),Option.bind_some,rE _ (l:=m.Path) h6]
 rw [l7 _ _ (by simp only [List.length_append,List.length_cons,List.length_nil];omega),Option.bind_some,rE _ (l:=[(m.Table.length:Int)]) (λx hx=>by rw [List.mem_singleton.1 hx];unfold vO;omega)]
 simp only [List.flatMap_cons,List.flatMap_nil,List.append_nil]
 generalize hB:(zJ m).flatMap eN++eN (TY m.dw)++ZQ m.Bl++XL m.Answer++eN (m.Path.length:Int)++m.Path.flatMap eN++eN (m.Table.length:Int)=B
 have hBl:B.length≤2000:=by
  rw [← hB]
  simp only [List.length_append]
  omega
 have l0:FW m (B,0)=some (B++m.Table.flatMap JE):=by
  have e0:(B,(0:Int))=(B++(m.Table.take 0).flatMap JE,((0:Nat):Int)):=by simp
  unfold FW
  rw [e0]
  refine qM (λi=>(B++(m.Table.take i).flatMap JE,(i:Int))) m.Table.length _ (λi hi=>?_) ?_ (by omega)
  ·have q5:(m.Table.take (i+1)).flatMap JE=(m.Table.take i).flatMap JE++JE m.Table[i]:=by
    rw [List.take_succ_eq_append_getElem hi,List.flatMap_append]
    simp
   have q6:=O7 JE m.Table i
   obtain ⟨q1,q2,q3,q4,q7⟩:=h7 _ (List.getElem_mem hi)
   have hp:=rE (B++(m.Table.take i).flatMap JE) (l:=[m.Table[i].Inc,m.Table[i].Status,m.Table[i].nV,m.Table[i].Load,TY m.Table[i].dw]) (λz hz=>by
    simp only [List.mem_cons,List.not_mem_nil,or_false] at hz
    rcases hz with rfl | rfl | rfl | rfl | rfl
    ·exact q1
    ·unfold vO;omega
    ·exact q4
    ·exact q7
    ·exact Ri _)
   unfold sJ
   simp only
   rw [bI (by omega),cond_true,fA hi,Option.bind_some,Wj,Option.bind_some,l7 _ _ (by simp only [List.length_append,List.length_cons,List.length_nil];omega),Option.bind_some,hp,fG (by omega) (by omega),fE,q5]
   unfold JE
   rw [List.append_assoc]
  ·unfold sJ
   simp only
   rw [aZ (by omega),cond_false,List.take_length]
 rw [l0,Option.bind_some,TW _ _ (by rw [List.length_append];omega) h.2.2.1 h.2.2.2,h0,if_pos rfl,Option.bind_some,← hB]
 simp only [List.append_assoc]
end Go.Proofs.YtohoggieaanllaaGreat
