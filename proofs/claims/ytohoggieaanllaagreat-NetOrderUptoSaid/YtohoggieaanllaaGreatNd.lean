import Derived.Test.YtohoggieaanllaaGreatNa
import Derived.Test.YtohoggieaanllaaGreatXrNetOrder
set_option linter.all false
set_option linter.unusedSimpArgs false
set_option maxRecDepth 100000
namespace Go.Proofs.YtohoggieaanllaaGreat
theorem auL:su=some true:=by decide +kernel
theorem ajF (x:List bf) (a b:Int):∃ l,qj x a b (0,[])=some l∧l.length≤20∧∀ m∈l,nN m=true:=by
 refine mW (λ(s:Int×List aF)=>20 - s.1.toNat) (λs=>∃ (i:Nat) (t:List aF),s=((i:Int),t)∧i≤20∧t.length≤i∧∀ m∈t,nN m=true) (λ(l:List aF)=>l.length≤20∧∀ m∈l,nN m=true) ?_ KK _ ⟨0,[],rfl,by omega,by simp,by simp⟩ (by have:=rO;simp only;omega)
 rintro s ⟨i,t,rfl,g1,g2,g3⟩
 simp only [iF,kZ]
 by_cases c:i < x.length
 case neg =>
  right
  rw [aV (by omega),cond_false]
  exact ⟨_,rfl,by omega,g3⟩
 by_cases c2:i < 20
 case neg =>
  right
  rw [aZ (by omega),cond_true,aV (by omega),cond_false]
  exact ⟨_,rfl,by omega,g3⟩
 left
 rw [aZ (by omega),cond_true,aZ (by omega),cond_true,Option.bind_some]
 simp only [jI,cond_true]
 obtain ⟨y,hy,sy,_⟩:=al6 x[i]
 rw [dI c,Option.bind_some,hy,Option.bind_some,ajD y sy,Option.bind_some,bU (by omega) (by omega),cO]
 cases r:nN y
 ·exact ⟨_,rfl,⟨i+1,_,rfl,by omega,by omega,g3⟩,by simp only;omega⟩
 ·rw [cond_true,jK (by unfold dh;simp;omega)]
  refine ⟨_,rfl,⟨i+1,_,rfl,by omega,by simp;omega,λm hm=>?_⟩,by simp only;omega⟩
  rcases List.mem_append.1 hm with hm | hm
  ·exact g3 m hm
  ·rw [List.mem_singleton.1 hm];exact r
theorem aa0:∀ (l:List aF) (c:Nat) (M:List aF),(∀ m∈l,nN m=true)→M.length+l.length≤60→l.foldl yC (c,M)=(c+l.length,M++l)
 | [],c,M,_,_=>by simp
 | m::l,c,M,h,hl=>by
  simp only [List.length_cons] at hl
  have e:yC (c,M) m=(c+1,M++[m]):=by
   unfold yC
   rw [if_pos ⟨h m (by simp),by simp only;omega⟩]
  rw [List.foldl_cons,e,aa0 l _ _ (λx hx=>h x (by simp [hx])) (by simp;omega)]
  simp
  omega
theorem aqK (M:List aF) {i j:Nat} (hi:i < M.length) (hj:j < M.length) (h1:j < ((M.set i M[j]).set j M[i]).length) (h2:i < ((M.set i M[j]).set j M[i]).length) :
  (((M.set i M[j]).set j M[i]).set j (((M.set i M[j]).set j M[i])[i])).set i (((M.set i M[j]).set j M[i])[j])=M:=by
 apply List.ext_getElem (by simp)
 intro n n1 n2
 simp only [List.getElem_set]
 by_cases a:i=n
 ·subst a
  simp
 ·by_cases b:j=n
  ·subst b
   simp [a,Ne.symm a]
  ·simp [a,b]
theorem Gy (x0:List bf) (x1:Int) (x2:Int) (o0:(okL Tg) x0) (o1:Xt x1) (o2:Xt x2) (hb:(bkL KU) x0+bk1 x1+bk1 x2≤1048576):og x0 x1 x2=some true:=by
 obtain ⟨M,m1,m2,m3⟩:=ajF x0 x1 x2
 have hM:UH M:=⟨m3,by omega⟩
 obtain ⟨k,k1,k2⟩:=yB x1 (M.length+1) (by omega) (by omega)
 unfold og
 rw [m1,Option.bind_some,bU (by omega) (by omega),show (M.length:Int)+1=((M.length+1:Nat):Int) by omega,k1,Option.bind_some]
 have j2:je M (k:Int) x1 x2=some (.inr (M.map DK)):=by
  have lt:(M.take k).length=k:=by rw [List.length_take];omega
  have ld:(M.drop k).length=M.length - k:=List.length_drop
  have p1:ab0 (M.take k) []=(k,M.take k):=by
   unfold ab0
   rw [aa0 _ _ _ (λm hm=>m3 m (List.mem_of_mem_take hm)) (by rw [lt];simp;omega),lt]
   simp
  have p2:ab0 (M.drop k) (M.take k)=(M.length - k,M):=by
   unfold ab0
   rw [aa0 _ _ _ (λm hm=>m3 m (List.mem_of_mem_drop hm)) (by rw [lt,ld];omega),ld,List.take_append_drop]
   simp
  have q1:=ajE (M.take k) (by omega) (λm hm=>LD (m3 m (List.mem_of_mem_take hm)))
  have q2:=Xm (M.drop k) (M.take k) (by omega) (λm hm=>LD (m3 m (List.mem_of_mem_drop hm))) ⟨λm hm=>m3 m (List.mem_of_mem_take hm),by omega⟩
  unfold je
  rw [adW M k (by omega),Option.bind_some,q1,p1,Option.bind_some]
  simp only
  rw [gL rfl,cond_false,uK M k (by omega),Option.bind_some,q2,p2,Option.bind_some]
  simp only
  rw [bU (by omega) (by omega),gL (by omega)]
  rfl
 rw [j2,Option.bind_some]
 simp only [jI,cond_false]
 have j3:jf M x1 x2 (.inr (M.map DK))=some (.inr (M.map DK)):=by
  unfold jf
  by_cases c:M.length > 0
  case neg =>
   rw [aV (by omega)]
   rfl
  obtain ⟨i,i1,i2⟩:=yB x1 M.length c (by omega)
  obtain ⟨j,j1,j2⟩:=yB x2 M.length c (by omega)
  rw [aZ (by omega),cond_true,i1,Option.bind_some,j1,Option.bind_some]
  simp only [JE]
  have h1:j < ((M.set i M[j]).set j M[i]).length:=by simp;exact j2
  have h2:i < ((M.set i M[j]).set j M[i]).length:=by simp;exact i2
  rw [akB i2 j2,Option.bind_some]
  simp only [Bool.not_true,cond_false]
  rw [akB h1 h2,Option.bind_some,aqK M i2 j2 h1 h2]
  rfl
 rw [j3,Option.bind_some]
 simp only [jI,cond_false,JE]
 have l4:lg M (0,M.map DK)=some (.inr []):=by
  unfold lg
  have e0:((0:Int),M.map DK)=(((0:Nat):Int),(M.drop 0).map DK):=by simp
  rw [e0]
  refine qK (λi=>((i:Int),(M.drop i).map DK)) M.length _ (λi hi=>?_) ?_ (by omega)
  ·have hd:UH (M.drop i):=⟨λm hm=>m3 m (List.mem_of_mem_drop hm),by rw [List.length_drop];omega⟩
   have hl:0 < (M.drop i).length:=by rw [List.length_drop];omega
   have ht:=auK hd hl
   have e1:(M.drop i)[0]=M[i]:=by simp
   have e2:(M.drop i).take 0++(M.drop i).drop (0+1)=M.drop (i+1):=by simp
   rw [e1,e2] at ht
   obtain ⟨v,v1,v2⟩:=ay4 M[i] M[i] (LD (m3 _ (List.getElem_mem hi)))
   have v3:v=true:=v2.2 rfl
   unfold gJ
   simp only
   rw [aZ (by omega),cond_true,dI hi,Option.bind_some,show (0:Int)=((0:Nat):Int) from rfl,ht,Option.bind_some]
   simp only [Bool.not_true,cond_false]
   rw [v1,Option.bind_some,v3,bU (by omega) (by omega),cO]
   rfl
  ·unfold gJ
   simp only
   rw [aV (by omega),cond_false,List.drop_length]
   rfl
 rw [l4,auL]
 rfl
end Go.Proofs.YtohoggieaanllaaGreat
