import Derived.Test.YtohoggieaanllaaGreatKj
import Derived.Test.YtohoggieaanllaaGreatKc
set_option linter.all false
set_option linter.unusedSimpArgs false
set_option maxRecDepth 100000
namespace Go.Proofs.YtohoggieaanllaaGreat
theorem Pq (n:Int):Tj n=decide (uz n):=by
 unfold Tj
 rw [decide_eq_decide]
 exact Iff.rfl
theorem aaX {α:Type} (l:List α) (P:α→Prop) [DecidablePred P] (hl:l.length < 1000000) (f:Int→Option (Int⊕(Unit⊕Unit)))
  (hin:∀ (i:Nat) (h:i < l.length),f (i:Int)=cond (!decide (P l[i])) (some (.inr (.inl ()))) (some (.inl ((i+1:Nat):Int)))) (hout:f (l.length:Int)=some (.inr (.inr ()))) :
  bT f KK 0=some (if (∀ x∈l,P x) then .inr () else .inl ()):=by
 obtain ⟨e,e1,e2⟩:=Ls l (λn=>!decide (P n)) hl f (λ_=>()) hin hout
 rw [e1]
 rw [aeX] at e2
 rcases e2 with ⟨q,i,rfl⟩ | ⟨q,rfl⟩
 ·rw [if_neg (by simpa using q)]
 ·rw [if_pos (by simpa using q)]
theorem rm1 (m:aF):FV m 0=some (if (∀ n∈[m.From,m.To,m.eY,m.Epoch,m.Weight,m.Load,m.qm],uz n) then .inr () else .inl ()):=by
 refine aaX [m.From,m.To,m.eY,m.Epoch,m.Weight,m.Load,m.qm] uz (by simp) _ (λi hi=>?_) rfl
 have hi':i < 7:=hi
 unfold qM
 rw [aZ (by omega),cond_true,dI hi,Option.bind_some,KA,Option.bind_some,Pq,bU (by omega) (by omega),cO]
theorem rm2 (m:aF) (h:m.Path.length < 1000000):FW m 0=some (if (∀ n∈m.Path,uz n) then .inr () else .inl ()):=by
 refine aaX m.Path uz h _ (λi hi=>?_) ?_
 ·unfold mY
  rw [aZ (by omega),cond_true,dI hi,Option.bind_some,KA,Option.bind_some,Pq,bU (by omega) (by omega),cO]
 ·unfold mY
  rw [aV (by omega),cond_false]
theorem rm3 (m:aF) (h:m.Table.length < 1000000):FX m 0=some (if (∀ n∈m.Table,Yz n) then .inr () else .inl ()):=by
 refine aaX m.Table Yz h _ (λi hi=>?_) ?_
 ·unfold mZ
  rw [aZ (by omega),cond_true,dI hi,Option.bind_some,KA,Option.bind_some,KA,KA,Pq,Pq,Pq,bU (by omega) (by omega),cO]
  generalize m.Table[i]=x
  by_cases a:uz x.Inc
  case neg=>rw [aV a,aV (show ¬ Yz x from λh=>a h.1)];rfl
  by_cases b:x.Status < 0
  case pos=>rw [aZ a,aZ b,aV (show ¬ Yz x from λh=>by have:=h.2.1;omega)];rfl
  by_cases c:x.Status > 2
  case pos=>rw [aZ a,aV b,aZ c,aV (show ¬ Yz x from λh=>by have:=h.2.2.1;omega)];rfl
  by_cases d:uz x.ql
  case neg=>rw [aZ a,aV b,aV c,aV d,aV (show ¬ Yz x from λh=>d h.2.2.2.1)];rfl
  by_cases e:uz x.Load
  case neg=>rw [aZ a,aV b,aV c,aZ d,aV e,aV (show ¬ Yz x from λh=>e h.2.2.2.2)];rfl
  rw [aZ a,aV b,aV c,aZ d,aZ e,aZ (show Yz x from ⟨a,by omega,by omega,d,e⟩)];rfl
 ·unfold mZ
  rw [aV (by omega),cond_false]
theorem ajD (m:aF) (h:LB m):Dh m=some (nN m):=by
 unfold Dh Aq
 have no:¬ MC m→some false=some (nN m):=λh=>by unfold nN;rw [aV h]
 rw [ae0,ae1,aaW m.xg h.2.2.1 h.2.2.2,rm1,rm2 m h.1,rm3 m h.2.1]
 by_cases k1:m.Kind < 1
 ·rw [aZ k1,← no (by rintro ⟨p,_⟩;omega)];rfl
 by_cases k2:m.Kind > 10
 ·rw [aV k1,aZ k2,← no (by rintro ⟨_,p,_⟩;omega)];rfl
 by_cases k4:(m.Path.length:Int) > 5
 ·rw [aV k1,aV k2,aZ k4,← no (by rintro ⟨_,_,_,p,_⟩;omega)];rfl
 by_cases k5:(m.Table.length:Int) > 5
 ·rw [aV k1,aV k2,aV k4,aZ k5,← no (by rintro ⟨_,_,_,_,p,_⟩;omega)];rfl
 rw [aV k1,aV k2,aV k4,aV k5]
 cases k8:vK m.IK
 case false=>rw [← no (λp=>by have:=p.2.2.2.2.2.2.2.1;rw [k8] at this;cases this)];rfl
 cases k9:sF m.Answer
 case false=>rw [← no (λp=>by have:=p.2.2.2.2.2.2.2.2.1;rw [k9] at this;cases this)];rfl
 cases k0:qV m.xg
 case false=>rw [← no (λp=>by have:=p.2.2.2.2.2.2.2.2.2;rw [k0] at this;cases this)];rfl
 by_cases k3:∀ n∈[m.From,m.To,m.eY,m.Epoch,m.Weight,m.Load,m.qm],uz n
 case neg=>rw [if_neg k3,← no (λp=>k3 λn hn=>p.2.2.1 n (List.mem_cons_of_mem _ hn))];rfl
 by_cases k6:∀ n∈m.Path,uz n
 case neg=>rw [if_pos k3,if_neg k6,← no (λp=>k6 p.2.2.2.2.2.1)];rfl
 by_cases k7:∀ n∈m.Table,Yz n
 case neg=>rw [if_pos k3,if_pos k6,if_neg k7,← no (λp=>k7 p.2.2.2.2.2.2.1)];rfl
 rw [if_pos k3,if_pos k6,if_pos k7]
 unfold nN
 rw [aZ (show MC m from ⟨by omega,by omega, ?_,by omega,by omega,k6,k7,k8,k9,k0⟩)]
 ·rfl
 ·intro n hn
  rcases List.mem_cons.1 hn with rfl | hn
  ·unfold uz;omega
  ·exact k3 n hn
end Go.Proofs.YtohoggieaanllaaGreat
