import Derived.Test.YtohoggieaanllaaGreatKj
import Derived.Test.YtohoggieaanllaaGreatKc
set_option linter.all false
set_option linter.unusedSimpArgs false
set_option maxRecDepth 100000
namespace Go.Proofs.YtohoggieaanllaaGreat
theorem P9 (n:Int):LD n=decide (vG n):=by
 unfold LD
 rw [decide_eq_decide]
 exact Iff.rfl
theorem abC {α:Type} (l:List α) (P:α→Prop) [DecidablePred P] (hl:l.length < 1000000) (f:Int→Option (Int⊕(Unit⊕Unit)))
  (hin:∀ (i:Nat) (h:i < l.length),f (i:Int)=cond (!decide (P l[i])) (some (.inr (.inl ()))) (some (.inl ((i+1:Nat):Int)))) (hout:f (l.length:Int)=some (.inr (.inr ()))) :
  bQ f KK 0=some (if (∀ x∈l,P x) then .inr () else .inl ()):=by
 obtain ⟨e,e1,e2⟩:=Mg l (λn=>!decide (P n)) hl f (λ_=>()) hin hout
 rw [e1]
 rw [afw] at e2
 rcases e2 with ⟨q,i,rfl⟩ | ⟨q,rfl⟩
 ·rw [if_neg (by simpa using q)]
 ·rw [if_pos (by simpa using q)]
theorem rm1 (m:aM):Gw m 0=some (if (∀ n∈[m.From,m.To,m.dR,m.Epoch,m.Weight,m.Load,m.kT],vG n) then .inr () else .inl ()):=by
 refine abC [m.From,m.To,m.dR,m.Epoch,m.Weight,m.Load,m.kT] vG (by simp) _ (λi hi=>?_) rfl
 have hi':i < 7:=hi
 unfold rT
 rw [bf (by omega),cond_true,dP hi,Option.bind_some,FU,Option.bind_some,P9,bM (by omega) (by omega),dA]
theorem rm2 (m:aM) (h:m.Path.length < 1000000):Gx m 0=some (if (∀ n∈m.Path,vG n) then .inr () else .inl ()):=by
 refine abC m.Path vG h _ (λi hi=>?_) ?_
 ·unfold nW
  rw [bf (by omega),cond_true,dP hi,Option.bind_some,FU,Option.bind_some,P9,bM (by omega) (by omega),dA]
 ·unfold nW
  rw [aT (by omega),cond_false]
theorem rm3 (m:aM) (h:m.Table.length < 1000000):Gy m 0=some (if (∀ n∈m.Table,okE n) then .inr () else .inl ()):=by
 refine abC m.Table okE h _ (λi hi=>?_) ?_
 ·unfold nX
  rw [bf (by omega),cond_true,dP hi,Option.bind_some,FU,Option.bind_some,FU,FU,P9,P9,P9,bM (by omega) (by omega),dA]
  generalize m.Table[i]=x
  by_cases a:vG x.Inc
  case neg=>rw [aT a,aT (show ¬ okE x from λh=>a h.1)];rfl
  by_cases b:x.Status < 0
  case pos=>rw [bf a,bf b,aT (show ¬ okE x from λh=>by have:=h.2.1;omega)];rfl
  by_cases c:x.Status > 2
  case pos=>rw [bf a,aT b,bf c,aT (show ¬ okE x from λh=>by have:=h.2.2.1;omega)];rfl
  by_cases d:vG x.qZ
  case neg=>rw [bf a,aT b,aT c,aT d,aT (show ¬ okE x from λh=>d h.2.2.2.1)];rfl
  by_cases e:vG x.Load
  case neg=>rw [bf a,aT b,aT c,bf d,aT e,aT (show ¬ okE x from λh=>e h.2.2.2.2)];rfl
  rw [bf a,aT b,aT c,bf d,bf e,bf (show okE x from ⟨a,by omega,by omega,d,e⟩)];rfl
 ·unfold nX
  rw [aT (by omega),cond_false]
theorem Tf (m:aM) (h:EM m):qJ m=some (sD m):=by
 unfold qJ Bb
 have no:¬ MC m→some false=some (sD m):=λh=>by unfold sD;rw [aT h]
 rw [Mq,Mr,Hr m.mZ h.2.2.1 h.2.2.2,rm1,rm2 m h.1,rm3 m h.2.1]
 by_cases k1:m.Kind < 1
 ·rw [bf k1,← no (by rintro ⟨p,_⟩;omega)];rfl
 by_cases k2:m.Kind > 10
 ·rw [aT k1,bf k2,← no (by rintro ⟨_,p,_⟩;omega)];rfl
 by_cases k4:(m.Path.length:Int) > 5
 ·rw [aT k1,aT k2,bf k4,← no (by rintro ⟨_,_,_,p,_⟩;omega)];rfl
 by_cases k5:(m.Table.length:Int) > 5
 ·rw [aT k1,aT k2,aT k4,bf k5,← no (by rintro ⟨_,_,_,_,p,_⟩;omega)];rfl
 rw [aT k1,aT k2,aT k4,aT k5]
 cases k8:nK m.Fa
 case false=>rw [← no (λp=>by have:=p.2.2.2.2.2.2.2.1;rw [k8] at this;cases this)];rfl
 cases k9:su m.Answer
 case false=>rw [← no (λp=>by have:=p.2.2.2.2.2.2.2.2.1;rw [k9] at this;cases this)];rfl
 cases k0:kH m.mZ
 case false=>rw [← no (λp=>by have:=p.2.2.2.2.2.2.2.2.2;rw [k0] at this;cases this)];rfl
 by_cases k3:∀ n∈[m.From,m.To,m.dR,m.Epoch,m.Weight,m.Load,m.kT],vG n
 case neg=>rw [if_neg k3,← no (λp=>k3 λn hn=>p.2.2.1 n (List.mem_cons_of_mem _ hn))];rfl
 by_cases k6:∀ n∈m.Path,vG n
 case neg=>rw [if_pos k3,if_neg k6,← no (λp=>k6 p.2.2.2.2.2.1)];rfl
 by_cases k7:∀ n∈m.Table,okE n
 case neg=>rw [if_pos k3,if_pos k6,if_neg k7,← no (λp=>k7 p.2.2.2.2.2.2.1)];rfl
 rw [if_pos k3,if_pos k6,if_pos k7]
 unfold sD
 rw [bf (show MC m from ⟨by omega,by omega, ?_,by omega,by omega,k6,k7,k8,k9,k0⟩)]
 ·rfl
 ·intro n hn
  rcases List.mem_cons.1 hn with rfl | hn
  ·unfold vG;omega
  ·exact k3 n hn
end Go.Proofs.YtohoggieaanllaaGreat
